/- The contracts of Put. -/
import Derived.Test.YtepihchlfbdnjaaB
set_option linter.all false
namespace Go.Proofs.Ytepihchlfbdnjaa
open Go.RowKit Go.Hub Go.Vl
theorem info5 : (Try.prog.info? 5).map (fun i => (i.zero, i.size, i.bytes)) = some (some (.int .u8 0), 1, 1) := by kernel_rfl
/-- nil and 31 where there is no such length; else its bytes, in new memory, and 0 -/
def PutPost (n : Int) (w : World) (e : Ending) (w' : World) : Prop :=
  Below w.heap.size w w' ∧ ((szN n = 0 ∧ e = .returned (.tuple #[.slice none 0 0, .int .i64 31])) ∨
    (0 < szN n ∧ ∃ v, e = .returned (.tuple #[v, .int .i64 0]) ∧ Own w' 5 1 v (szN n) ((putL n).map u8) ∧ ∀ k, v.ownBlock = some k → w.heap.size ≤ k))
set_option maxHeartbeats 2000000 in
theorem put_1 (n : Int) (w : World) (hs : szN n = 1) (h0 : 0 ≤ n) (h1 : n < 128) : Calls Try.prog 8 #[.int .i64 n] w (PutPost n w) := by
  obtain ⟨i0, hi0, hz0, hz1, hz2⟩ := info_parts info5
  have HS := hid hs
  clear hs
  go_enter Try.func8, Try.ntmps8
  go_wp2_with fail
  refine (size_any n _).mono ?_
  rw [HS.out]
  rintro e w1 ⟨rfl, rfl⟩
  go_wp2_with fail
  go_loopg [5, 13] 1 (fun g v iv wr => ∃ i : Nat, i + g = 1 ∧ iv = .int .i64 i ∧ Own wr 5 1 v i (((putL n).take i).map u8) ∧ Below w.heap.size w wr ∧ ∀ k, v.ownBlock = some k → w.heap.size ≤ k)
  case atStart => exact ⟨0, rfl, rfl, Own.nil _ _ _, Below.refl _ _, by simp [Value.ownBlock]⟩
  case round =>
    obtain ⟨i, hi, rfl, ho, hb, hk⟩ := hrel
    obtain ⟨A, c, rfl, hc1, hc2⟩ := ho.form
    have HO := hid (And.intro ho (And.intro hb hk))
    clear ho hb hk
    rcases (show (i = 0 ∧ gk = 1) ∨ (i = 1 ∧ gk = 0) by omega) with ⟨rfl, rfl⟩ | ⟨rfl, rfl⟩
    · obtain ⟨z, hz⟩ : ∃ z : Int, z = n % 128 := ⟨_, rfl⟩
      have hcl : bits BinOp.andNot IntKind.u8 (n % 256) 128 = n % 128 := by rw [u8_clear _ (by omega) (by omega)]; omega
      have hcl2 : bits BinOp.andNot IntKind.u8 (n) 128 = n % 128 := u8_clear _ (by omega) (by omega)
      have hzu : u8 (byteN n 0 1) = .int .u8 z := by unfold u8; rw [byteN_toNat, hz]; unfold byteI; simp
      have htk : (putL n).take (0 + 1) = (putL n).take 0 ++ [byteN n 0 1] := by
        rw [List.take_succ, putL_at n 0 (by rw [HS.out]; omega), HS.out]; rfl
      have HT := hid (And.intro hzu htk)
      have hown := HO.out.1.alloc (.cells #[.int .u8 z] 5)
      have hrd := Rds.boxed wr #[.int .u8 z] 5 1 rfl
      clear hzu htk
      go_wp2_with (first
        | (at_builtin; simp only [← hz]
           refine wpList_append_own' _ rfl (.tmp 28) (.tmp 30) _ rfl 5 i0 _ 1 1 Try.underlying22 hi0 hz0 hz1 hz2 rfl (by omega) (.slice A 0 c) 0 _ rfl hown _ _ _ _ _ rfl hrd (by simp [Value.oneCell']) (by unfold maxLen; omega) (by omega) ?_
           intro v2 w2 o2 k2 at2))
      have F : Own w2 5 1 v2 (0 + 1) (((putL n).take (0 + 1)).map u8) ∧ Below w.heap.size w w2 ∧ ∀ k, v2.ownBlock = some k → w.heap.size ≤ k := by
        rw [HT.out.2, List.map_append, List.map_cons, List.map_nil, HT.out.1]
        have hb := HO.out.2.1
        have k1 : Kept [] wr (wr.alloc (.cells #[.int .u8 z] 5)) := (Kept.refl _ _).alloc _
        refine ⟨o2, (hb.trans (k1.below (by simp) hb.size)).trans (k2.below (fun x hx => HO.out.2.2 x (by simpa using hx)) (by have := hb.size; simp; omega)), fun k hk => ?_⟩
        rcases at2 k hk with h | h
        · exact HO.out.2.2 k h
        · have := hb.size; simp at h; omega
      have HF := hid F
      clear F o2 k2 at2 hown hrd
      go_wp2
      go_roundg 0
      case measure => omega
      case rel => exact ⟨1, rfl, rfl, HF.out⟩
    · go_wp2
      go_ret2
      refine ⟨HO.out.2.1, .inr ⟨by rw [HS.out]; omega, _, rfl, ?_, HO.out.2.2⟩⟩
      have := HO.out.1
      rw [HS.out]
      rwa [List.take_of_length_le (by rw [putL_len, HS.out]; omega)] at this

set_option maxHeartbeats 2000000 in
theorem put_2 (n : Int) (w : World) (hs : szN n = 2) (h0 : 128 ≤ n) (h1 : n < 16384) : Calls Try.prog 8 #[.int .i64 n] w (PutPost n w) := by
  obtain ⟨i0, hi0, hz0, hz1, hz2⟩ := info_parts info5
  have HS := hid hs
  clear hs
  go_enter Try.func8, Try.ntmps8
  go_wp2_with fail
  refine (size_any n _).mono ?_
  rw [HS.out]
  rintro e w1 ⟨rfl, rfl⟩
  go_wp2_with fail
  go_loopg [5, 13] 2 (fun g v iv wr => ∃ i : Nat, i + g = 2 ∧ iv = .int .i64 i ∧ Own wr 5 1 v i (((putL n).take i).map u8) ∧ Below w.heap.size w wr ∧ ∀ k, v.ownBlock = some k → w.heap.size ≤ k)
  case atStart => exact ⟨0, rfl, rfl, Own.nil _ _ _, Below.refl _ _, by simp [Value.ownBlock]⟩
  case round =>
    obtain ⟨i, hi, rfl, ho, hb, hk⟩ := hrel
    obtain ⟨A, c, rfl, hc1, hc2⟩ := ho.form
    have HO := hid (And.intro ho (And.intro hb hk))
    clear ho hb hk
    rcases (show (i = 0 ∧ gk = 2) ∨ (i = 1 ∧ gk = 1) ∨ (i = 2 ∧ gk = 0) by omega) with ⟨rfl, rfl⟩ | ⟨rfl, rfl⟩ | ⟨rfl, rfl⟩
    · obtain ⟨z, hz⟩ : ∃ z : Int, z = n % 128 + 128 := ⟨_, rfl⟩
      have hcl : bits BinOp.andNot IntKind.u8 (n % 256) 128 = n % 128 := by rw [u8_clear _ (by omega) (by omega)]; omega
      have hor : bits BinOp.or IntKind.u8 (n % 128) 128 = n % 128 + 128 := by rw [u8_top _ (by omega) (by omega)]; omega
      have hzu : u8 (byteN n 0 2) = .int .u8 z := by unfold u8; rw [byteN_toNat, hz]; unfold byteI; simp
      have htk : (putL n).take (0 + 1) = (putL n).take 0 ++ [byteN n 0 2] := by
        rw [List.take_succ, putL_at n 0 (by rw [HS.out]; omega), HS.out]; rfl
      have HT := hid (And.intro hzu htk)
      have hown := HO.out.1.alloc (.cells #[.int .u8 z] 5)
      have hrd := Rds.boxed wr #[.int .u8 z] 5 1 rfl
      clear hzu htk
      go_wp2_with (first
        | (at_builtin; simp only [← hz]
           refine wpList_append_own' _ rfl (.tmp 28) (.tmp 30) _ rfl 5 i0 _ 1 1 Try.underlying22 hi0 hz0 hz1 hz2 rfl (by omega) (.slice A 0 c) 0 _ rfl hown _ _ _ _ _ rfl hrd (by simp [Value.oneCell']) (by unfold maxLen; omega) (by omega) ?_
           intro v2 w2 o2 k2 at2))
      have F : Own w2 5 1 v2 (0 + 1) (((putL n).take (0 + 1)).map u8) ∧ Below w.heap.size w w2 ∧ ∀ k, v2.ownBlock = some k → w.heap.size ≤ k := by
        rw [HT.out.2, List.map_append, List.map_cons, List.map_nil, HT.out.1]
        have hb := HO.out.2.1
        have k1 : Kept [] wr (wr.alloc (.cells #[.int .u8 z] 5)) := (Kept.refl _ _).alloc _
        refine ⟨o2, (hb.trans (k1.below (by simp) hb.size)).trans (k2.below (fun x hx => HO.out.2.2 x (by simpa using hx)) (by have := hb.size; simp; omega)), fun k hk => ?_⟩
        rcases at2 k hk with h | h
        · exact HO.out.2.2 k h
        · have := hb.size; simp at h; omega
      have HF := hid F
      clear F o2 k2 at2 hown hrd
      go_wp2
      go_roundg 1
      case measure => omega
      case rel => exact ⟨1, rfl, rfl, HF.out⟩
    · obtain ⟨z, hz⟩ : ∃ z : Int, z = n / 128 % 128 := ⟨_, rfl⟩
      have hcl : bits BinOp.andNot IntKind.u8 (n / 128 % 256) 128 = n / 128 % 128 := by rw [u8_clear _ (by omega) (by omega)]; omega
      have hcl2 : bits BinOp.andNot IntKind.u8 (n / 128) 128 = n / 128 % 128 := u8_clear _ (by omega) (by omega)
      have hzu : u8 (byteN n 1 2) = .int .u8 z := by unfold u8; rw [byteN_toNat, hz]; unfold byteI; simp
      have htk : (putL n).take (1 + 1) = (putL n).take 1 ++ [byteN n 1 2] := by
        rw [List.take_succ, putL_at n 1 (by rw [HS.out]; omega), HS.out]; rfl
      have HT := hid (And.intro hzu htk)
      have hown := HO.out.1.alloc (.cells #[.int .u8 z] 5)
      have hrd := Rds.boxed wr #[.int .u8 z] 5 1 rfl
      clear hzu htk
      go_wp2_with (first
        | (at_builtin; simp only [← hz]
           refine wpList_append_own' _ rfl (.tmp 28) (.tmp 30) _ rfl 5 i0 _ 1 1 Try.underlying22 hi0 hz0 hz1 hz2 rfl (by omega) (.slice A 1 c) 1 _ rfl hown _ _ _ _ _ rfl hrd (by simp [Value.oneCell']) (by unfold maxLen; omega) (by omega) ?_
           intro v2 w2 o2 k2 at2))
      have F : Own w2 5 1 v2 (1 + 1) (((putL n).take (1 + 1)).map u8) ∧ Below w.heap.size w w2 ∧ ∀ k, v2.ownBlock = some k → w.heap.size ≤ k := by
        rw [HT.out.2, List.map_append, List.map_cons, List.map_nil, HT.out.1]
        have hb := HO.out.2.1
        have k1 : Kept [] wr (wr.alloc (.cells #[.int .u8 z] 5)) := (Kept.refl _ _).alloc _
        refine ⟨o2, (hb.trans (k1.below (by simp) hb.size)).trans (k2.below (fun x hx => HO.out.2.2 x (by simpa using hx)) (by have := hb.size; simp; omega)), fun k hk => ?_⟩
        rcases at2 k hk with h | h
        · exact HO.out.2.2 k h
        · have := hb.size; simp at h; omega
      have HF := hid F
      clear F o2 k2 at2 hown hrd
      go_wp2
      go_roundg 0
      case measure => omega
      case rel => exact ⟨2, rfl, rfl, HF.out⟩
    · go_wp2
      go_ret2
      refine ⟨HO.out.2.1, .inr ⟨by rw [HS.out]; omega, _, rfl, ?_, HO.out.2.2⟩⟩
      have := HO.out.1
      rw [HS.out]
      rwa [List.take_of_length_le (by rw [putL_len, HS.out]; omega)] at this

set_option maxHeartbeats 2000000 in
theorem put_3 (n : Int) (w : World) (hs : szN n = 3) (h0 : 16384 ≤ n) (h1 : n < 2097152) : Calls Try.prog 8 #[.int .i64 n] w (PutPost n w) := by
  obtain ⟨i0, hi0, hz0, hz1, hz2⟩ := info_parts info5
  have HS := hid hs
  clear hs
  go_enter Try.func8, Try.ntmps8
  go_wp2_with fail
  refine (size_any n _).mono ?_
  rw [HS.out]
  rintro e w1 ⟨rfl, rfl⟩
  go_wp2_with fail
  go_loopg [5, 13] 3 (fun g v iv wr => ∃ i : Nat, i + g = 3 ∧ iv = .int .i64 i ∧ Own wr 5 1 v i (((putL n).take i).map u8) ∧ Below w.heap.size w wr ∧ ∀ k, v.ownBlock = some k → w.heap.size ≤ k)
  case atStart => exact ⟨0, rfl, rfl, Own.nil _ _ _, Below.refl _ _, by simp [Value.ownBlock]⟩
  case round =>
    obtain ⟨i, hi, rfl, ho, hb, hk⟩ := hrel
    obtain ⟨A, c, rfl, hc1, hc2⟩ := ho.form
    have HO := hid (And.intro ho (And.intro hb hk))
    clear ho hb hk
    rcases (show (i = 0 ∧ gk = 3) ∨ (i = 1 ∧ gk = 2) ∨ (i = 2 ∧ gk = 1) ∨ (i = 3 ∧ gk = 0) by omega) with ⟨rfl, rfl⟩ | ⟨rfl, rfl⟩ | ⟨rfl, rfl⟩ | ⟨rfl, rfl⟩
    · obtain ⟨z, hz⟩ : ∃ z : Int, z = n % 128 + 128 := ⟨_, rfl⟩
      have hcl : bits BinOp.andNot IntKind.u8 (n % 256) 128 = n % 128 := by rw [u8_clear _ (by omega) (by omega)]; omega
      have hor : bits BinOp.or IntKind.u8 (n % 128) 128 = n % 128 + 128 := by rw [u8_top _ (by omega) (by omega)]; omega
      have hzu : u8 (byteN n 0 3) = .int .u8 z := by unfold u8; rw [byteN_toNat, hz]; unfold byteI; simp
      have htk : (putL n).take (0 + 1) = (putL n).take 0 ++ [byteN n 0 3] := by
        rw [List.take_succ, putL_at n 0 (by rw [HS.out]; omega), HS.out]; rfl
      have HT := hid (And.intro hzu htk)
      have hown := HO.out.1.alloc (.cells #[.int .u8 z] 5)
      have hrd := Rds.boxed wr #[.int .u8 z] 5 1 rfl
      clear hzu htk
      go_wp2_with (first
        | (at_builtin; simp only [← hz]
           refine wpList_append_own' _ rfl (.tmp 28) (.tmp 30) _ rfl 5 i0 _ 1 1 Try.underlying22 hi0 hz0 hz1 hz2 rfl (by omega) (.slice A 0 c) 0 _ rfl hown _ _ _ _ _ rfl hrd (by simp [Value.oneCell']) (by unfold maxLen; omega) (by omega) ?_
           intro v2 w2 o2 k2 at2))
      have F : Own w2 5 1 v2 (0 + 1) (((putL n).take (0 + 1)).map u8) ∧ Below w.heap.size w w2 ∧ ∀ k, v2.ownBlock = some k → w.heap.size ≤ k := by
        rw [HT.out.2, List.map_append, List.map_cons, List.map_nil, HT.out.1]
        have hb := HO.out.2.1
        have k1 : Kept [] wr (wr.alloc (.cells #[.int .u8 z] 5)) := (Kept.refl _ _).alloc _
        refine ⟨o2, (hb.trans (k1.below (by simp) hb.size)).trans (k2.below (fun x hx => HO.out.2.2 x (by simpa using hx)) (by have := hb.size; simp; omega)), fun k hk => ?_⟩
        rcases at2 k hk with h | h
        · exact HO.out.2.2 k h
        · have := hb.size; simp at h; omega
      have HF := hid F
      clear F o2 k2 at2 hown hrd
      go_wp2
      go_roundg 2
      case measure => omega
      case rel => exact ⟨1, rfl, rfl, HF.out⟩
    · obtain ⟨z, hz⟩ : ∃ z : Int, z = n / 128 % 128 + 128 := ⟨_, rfl⟩
      have hcl : bits BinOp.andNot IntKind.u8 (n / 128 % 256) 128 = n / 128 % 128 := by rw [u8_clear _ (by omega) (by omega)]; omega
      have hor : bits BinOp.or IntKind.u8 (n / 128 % 128) 128 = n / 128 % 128 + 128 := by rw [u8_top _ (by omega) (by omega)]; omega
      have hzu : u8 (byteN n 1 3) = .int .u8 z := by unfold u8; rw [byteN_toNat, hz]; unfold byteI; simp
      have htk : (putL n).take (1 + 1) = (putL n).take 1 ++ [byteN n 1 3] := by
        rw [List.take_succ, putL_at n 1 (by rw [HS.out]; omega), HS.out]; rfl
      have HT := hid (And.intro hzu htk)
      have hown := HO.out.1.alloc (.cells #[.int .u8 z] 5)
      have hrd := Rds.boxed wr #[.int .u8 z] 5 1 rfl
      clear hzu htk
      go_wp2_with (first
        | (at_builtin; simp only [← hz]
           refine wpList_append_own' _ rfl (.tmp 28) (.tmp 30) _ rfl 5 i0 _ 1 1 Try.underlying22 hi0 hz0 hz1 hz2 rfl (by omega) (.slice A 1 c) 1 _ rfl hown _ _ _ _ _ rfl hrd (by simp [Value.oneCell']) (by unfold maxLen; omega) (by omega) ?_
           intro v2 w2 o2 k2 at2))
      have F : Own w2 5 1 v2 (1 + 1) (((putL n).take (1 + 1)).map u8) ∧ Below w.heap.size w w2 ∧ ∀ k, v2.ownBlock = some k → w.heap.size ≤ k := by
        rw [HT.out.2, List.map_append, List.map_cons, List.map_nil, HT.out.1]
        have hb := HO.out.2.1
        have k1 : Kept [] wr (wr.alloc (.cells #[.int .u8 z] 5)) := (Kept.refl _ _).alloc _
        refine ⟨o2, (hb.trans (k1.below (by simp) hb.size)).trans (k2.below (fun x hx => HO.out.2.2 x (by simpa using hx)) (by have := hb.size; simp; omega)), fun k hk => ?_⟩
        rcases at2 k hk with h | h
        · exact HO.out.2.2 k h
        · have := hb.size; simp at h; omega
      have HF := hid F
      clear F o2 k2 at2 hown hrd
      go_wp2
      go_roundg 1
      case measure => omega
      case rel => exact ⟨2, rfl, rfl, HF.out⟩
    · obtain ⟨z, hz⟩ : ∃ z : Int, z = n / 16384 % 128 := ⟨_, rfl⟩
      have hcl : bits BinOp.andNot IntKind.u8 (n / 16384 % 256) 128 = n / 16384 % 128 := by rw [u8_clear _ (by omega) (by omega)]; omega
      have hcl2 : bits BinOp.andNot IntKind.u8 (n / 16384) 128 = n / 16384 % 128 := u8_clear _ (by omega) (by omega)
      have hzu : u8 (byteN n 2 3) = .int .u8 z := by unfold u8; rw [byteN_toNat, hz]; unfold byteI; simp
      have htk : (putL n).take (2 + 1) = (putL n).take 2 ++ [byteN n 2 3] := by
        rw [List.take_succ, putL_at n 2 (by rw [HS.out]; omega), HS.out]; rfl
      have HT := hid (And.intro hzu htk)
      have hown := HO.out.1.alloc (.cells #[.int .u8 z] 5)
      have hrd := Rds.boxed wr #[.int .u8 z] 5 1 rfl
      clear hzu htk
      go_wp2_with (first
        | (at_builtin; simp only [← hz]
           refine wpList_append_own' _ rfl (.tmp 28) (.tmp 30) _ rfl 5 i0 _ 1 1 Try.underlying22 hi0 hz0 hz1 hz2 rfl (by omega) (.slice A 2 c) 2 _ rfl hown _ _ _ _ _ rfl hrd (by simp [Value.oneCell']) (by unfold maxLen; omega) (by omega) ?_
           intro v2 w2 o2 k2 at2))
      have F : Own w2 5 1 v2 (2 + 1) (((putL n).take (2 + 1)).map u8) ∧ Below w.heap.size w w2 ∧ ∀ k, v2.ownBlock = some k → w.heap.size ≤ k := by
        rw [HT.out.2, List.map_append, List.map_cons, List.map_nil, HT.out.1]
        have hb := HO.out.2.1
        have k1 : Kept [] wr (wr.alloc (.cells #[.int .u8 z] 5)) := (Kept.refl _ _).alloc _
        refine ⟨o2, (hb.trans (k1.below (by simp) hb.size)).trans (k2.below (fun x hx => HO.out.2.2 x (by simpa using hx)) (by have := hb.size; simp; omega)), fun k hk => ?_⟩
        rcases at2 k hk with h | h
        · exact HO.out.2.2 k h
        · have := hb.size; simp at h; omega
      have HF := hid F
      clear F o2 k2 at2 hown hrd
      go_wp2
      go_roundg 0
      case measure => omega
      case rel => exact ⟨3, rfl, rfl, HF.out⟩
    · go_wp2
      go_ret2
      refine ⟨HO.out.2.1, .inr ⟨by rw [HS.out]; omega, _, rfl, ?_, HO.out.2.2⟩⟩
      have := HO.out.1
      rw [HS.out]
      rwa [List.take_of_length_le (by rw [putL_len, HS.out]; omega)] at this

set_option maxHeartbeats 2000000 in
theorem put_4 (n : Int) (w : World) (hs : szN n = 4) (h0 : 2097152 ≤ n) (h1 : n < 268435456) : Calls Try.prog 8 #[.int .i64 n] w (PutPost n w) := by
  obtain ⟨i0, hi0, hz0, hz1, hz2⟩ := info_parts info5
  have HS := hid hs
  clear hs
  go_enter Try.func8, Try.ntmps8
  go_wp2_with fail
  refine (size_any n _).mono ?_
  rw [HS.out]
  rintro e w1 ⟨rfl, rfl⟩
  go_wp2_with fail
  go_loopg [5, 13] 4 (fun g v iv wr => ∃ i : Nat, i + g = 4 ∧ iv = .int .i64 i ∧ Own wr 5 1 v i (((putL n).take i).map u8) ∧ Below w.heap.size w wr ∧ ∀ k, v.ownBlock = some k → w.heap.size ≤ k)
  case atStart => exact ⟨0, rfl, rfl, Own.nil _ _ _, Below.refl _ _, by simp [Value.ownBlock]⟩
  case round =>
    obtain ⟨i, hi, rfl, ho, hb, hk⟩ := hrel
    obtain ⟨A, c, rfl, hc1, hc2⟩ := ho.form
    have HO := hid (And.intro ho (And.intro hb hk))
    clear ho hb hk
    rcases (show (i = 0 ∧ gk = 4) ∨ (i = 1 ∧ gk = 3) ∨ (i = 2 ∧ gk = 2) ∨ (i = 3 ∧ gk = 1) ∨ (i = 4 ∧ gk = 0) by omega) with ⟨rfl, rfl⟩ | ⟨rfl, rfl⟩ | ⟨rfl, rfl⟩ | ⟨rfl, rfl⟩ | ⟨rfl, rfl⟩
    · obtain ⟨z, hz⟩ : ∃ z : Int, z = n % 128 + 128 := ⟨_, rfl⟩
      have hcl : bits BinOp.andNot IntKind.u8 (n % 256) 128 = n % 128 := by rw [u8_clear _ (by omega) (by omega)]; omega
      have hor : bits BinOp.or IntKind.u8 (n % 128) 128 = n % 128 + 128 := by rw [u8_top _ (by omega) (by omega)]; omega
      have hzu : u8 (byteN n 0 4) = .int .u8 z := by unfold u8; rw [byteN_toNat, hz]; unfold byteI; simp
      have htk : (putL n).take (0 + 1) = (putL n).take 0 ++ [byteN n 0 4] := by
        rw [List.take_succ, putL_at n 0 (by rw [HS.out]; omega), HS.out]; rfl
      have HT := hid (And.intro hzu htk)
      have hown := HO.out.1.alloc (.cells #[.int .u8 z] 5)
      have hrd := Rds.boxed wr #[.int .u8 z] 5 1 rfl
      clear hzu htk
      go_wp2_with (first
        | (at_builtin; simp only [← hz]
           refine wpList_append_own' _ rfl (.tmp 28) (.tmp 30) _ rfl 5 i0 _ 1 1 Try.underlying22 hi0 hz0 hz1 hz2 rfl (by omega) (.slice A 0 c) 0 _ rfl hown _ _ _ _ _ rfl hrd (by simp [Value.oneCell']) (by unfold maxLen; omega) (by omega) ?_
           intro v2 w2 o2 k2 at2))
      have F : Own w2 5 1 v2 (0 + 1) (((putL n).take (0 + 1)).map u8) ∧ Below w.heap.size w w2 ∧ ∀ k, v2.ownBlock = some k → w.heap.size ≤ k := by
        rw [HT.out.2, List.map_append, List.map_cons, List.map_nil, HT.out.1]
        have hb := HO.out.2.1
        have k1 : Kept [] wr (wr.alloc (.cells #[.int .u8 z] 5)) := (Kept.refl _ _).alloc _
        refine ⟨o2, (hb.trans (k1.below (by simp) hb.size)).trans (k2.below (fun x hx => HO.out.2.2 x (by simpa using hx)) (by have := hb.size; simp; omega)), fun k hk => ?_⟩
        rcases at2 k hk with h | h
        · exact HO.out.2.2 k h
        · have := hb.size; simp at h; omega
      have HF := hid F
      clear F o2 k2 at2 hown hrd
      go_wp2
      go_roundg 3
      case measure => omega
      case rel => exact ⟨1, rfl, rfl, HF.out⟩
    · obtain ⟨z, hz⟩ : ∃ z : Int, z = n / 128 % 128 + 128 := ⟨_, rfl⟩
      have hcl : bits BinOp.andNot IntKind.u8 (n / 128 % 256) 128 = n / 128 % 128 := by rw [u8_clear _ (by omega) (by omega)]; omega
      have hor : bits BinOp.or IntKind.u8 (n / 128 % 128) 128 = n / 128 % 128 + 128 := by rw [u8_top _ (by omega) (by omega)]; omega
      have hzu : u8 (byteN n 1 4) = .int .u8 z := by unfold u8; rw [byteN_toNat, hz]; unfold byteI; simp
      have htk : (putL n).take (1 + 1) = (putL n).take 1 ++ [byteN n 1 4] := by
        rw [List.take_succ, putL_at n 1 (by rw [HS.out]; omega), HS.out]; rfl
      have HT := hid (And.intro hzu htk)
      have hown := HO.out.1.alloc (.cells #[.int .u8 z] 5)
      have hrd := Rds.boxed wr #[.int .u8 z] 5 1 rfl
      clear hzu htk
      go_wp2_with (first
        | (at_builtin; simp only [← hz]
           refine wpList_append_own' _ rfl (.tmp 28) (.tmp 30) _ rfl 5 i0 _ 1 1 Try.underlying22 hi0 hz0 hz1 hz2 rfl (by omega) (.slice A 1 c) 1 _ rfl hown _ _ _ _ _ rfl hrd (by simp [Value.oneCell']) (by unfold maxLen; omega) (by omega) ?_
           intro v2 w2 o2 k2 at2))
      have F : Own w2 5 1 v2 (1 + 1) (((putL n).take (1 + 1)).map u8) ∧ Below w.heap.size w w2 ∧ ∀ k, v2.ownBlock = some k → w.heap.size ≤ k := by
        rw [HT.out.2, List.map_append, List.map_cons, List.map_nil, HT.out.1]
        have hb := HO.out.2.1
        have k1 : Kept [] wr (wr.alloc (.cells #[.int .u8 z] 5)) := (Kept.refl _ _).alloc _
        refine ⟨o2, (hb.trans (k1.below (by simp) hb.size)).trans (k2.below (fun x hx => HO.out.2.2 x (by simpa using hx)) (by have := hb.size; simp; omega)), fun k hk => ?_⟩
        rcases at2 k hk with h | h
        · exact HO.out.2.2 k h
        · have := hb.size; simp at h; omega
      have HF := hid F
      clear F o2 k2 at2 hown hrd
      go_wp2
      go_roundg 2
      case measure => omega
      case rel => exact ⟨2, rfl, rfl, HF.out⟩
    · obtain ⟨z, hz⟩ : ∃ z : Int, z = n / 16384 % 128 + 128 := ⟨_, rfl⟩
      have hcl : bits BinOp.andNot IntKind.u8 (n / 16384 % 256) 128 = n / 16384 % 128 := by rw [u8_clear _ (by omega) (by omega)]; omega
      have hor : bits BinOp.or IntKind.u8 (n / 16384 % 128) 128 = n / 16384 % 128 + 128 := by rw [u8_top _ (by omega) (by omega)]; omega
      have hzu : u8 (byteN n 2 4) = .int .u8 z := by unfold u8; rw [byteN_toNat, hz]; unfold byteI; simp
      have htk : (putL n).take (2 + 1) = (putL n).take 2 ++ [byteN n 2 4] := by
        rw [List.take_succ, putL_at n 2 (by rw [HS.out]; omega), HS.out]; rfl
      have HT := hid (And.intro hzu htk)
      have hown := HO.out.1.alloc (.cells #[.int .u8 z] 5)
      have hrd := Rds.boxed wr #[.int .u8 z] 5 1 rfl
      clear hzu htk
      go_wp2_with (first
        | (at_builtin; simp only [← hz]
           refine wpList_append_own' _ rfl (.tmp 28) (.tmp 30) _ rfl 5 i0 _ 1 1 Try.underlying22 hi0 hz0 hz1 hz2 rfl (by omega) (.slice A 2 c) 2 _ rfl hown _ _ _ _ _ rfl hrd (by simp [Value.oneCell']) (by unfold maxLen; omega) (by omega) ?_
           intro v2 w2 o2 k2 at2))
      have F : Own w2 5 1 v2 (2 + 1) (((putL n).take (2 + 1)).map u8) ∧ Below w.heap.size w w2 ∧ ∀ k, v2.ownBlock = some k → w.heap.size ≤ k := by
        rw [HT.out.2, List.map_append, List.map_cons, List.map_nil, HT.out.1]
        have hb := HO.out.2.1
        have k1 : Kept [] wr (wr.alloc (.cells #[.int .u8 z] 5)) := (Kept.refl _ _).alloc _
        refine ⟨o2, (hb.trans (k1.below (by simp) hb.size)).trans (k2.below (fun x hx => HO.out.2.2 x (by simpa using hx)) (by have := hb.size; simp; omega)), fun k hk => ?_⟩
        rcases at2 k hk with h | h
        · exact HO.out.2.2 k h
        · have := hb.size; simp at h; omega
      have HF := hid F
      clear F o2 k2 at2 hown hrd
      go_wp2
      go_roundg 1
      case measure => omega
      case rel => exact ⟨3, rfl, rfl, HF.out⟩
    · obtain ⟨z, hz⟩ : ∃ z : Int, z = n / 2097152 % 128 := ⟨_, rfl⟩
      have hcl : bits BinOp.andNot IntKind.u8 (n / 2097152 % 256) 128 = n / 2097152 % 128 := by rw [u8_clear _ (by omega) (by omega)]; omega
      have hcl2 : bits BinOp.andNot IntKind.u8 (n / 2097152) 128 = n / 2097152 % 128 := u8_clear _ (by omega) (by omega)
      have hzu : u8 (byteN n 3 4) = .int .u8 z := by unfold u8; rw [byteN_toNat, hz]; unfold byteI; simp
      have htk : (putL n).take (3 + 1) = (putL n).take 3 ++ [byteN n 3 4] := by
        rw [List.take_succ, putL_at n 3 (by rw [HS.out]; omega), HS.out]; rfl
      have HT := hid (And.intro hzu htk)
      have hown := HO.out.1.alloc (.cells #[.int .u8 z] 5)
      have hrd := Rds.boxed wr #[.int .u8 z] 5 1 rfl
      clear hzu htk
      go_wp2_with (first
        | (at_builtin; simp only [← hz]
           refine wpList_append_own' _ rfl (.tmp 28) (.tmp 30) _ rfl 5 i0 _ 1 1 Try.underlying22 hi0 hz0 hz1 hz2 rfl (by omega) (.slice A 3 c) 3 _ rfl hown _ _ _ _ _ rfl hrd (by simp [Value.oneCell']) (by unfold maxLen; omega) (by omega) ?_
           intro v2 w2 o2 k2 at2))
      have F : Own w2 5 1 v2 (3 + 1) (((putL n).take (3 + 1)).map u8) ∧ Below w.heap.size w w2 ∧ ∀ k, v2.ownBlock = some k → w.heap.size ≤ k := by
        rw [HT.out.2, List.map_append, List.map_cons, List.map_nil, HT.out.1]
        have hb := HO.out.2.1
        have k1 : Kept [] wr (wr.alloc (.cells #[.int .u8 z] 5)) := (Kept.refl _ _).alloc _
        refine ⟨o2, (hb.trans (k1.below (by simp) hb.size)).trans (k2.below (fun x hx => HO.out.2.2 x (by simpa using hx)) (by have := hb.size; simp; omega)), fun k hk => ?_⟩
        rcases at2 k hk with h | h
        · exact HO.out.2.2 k h
        · have := hb.size; simp at h; omega
      have HF := hid F
      clear F o2 k2 at2 hown hrd
      go_wp2
      go_roundg 0
      case measure => omega
      case rel => exact ⟨4, rfl, rfl, HF.out⟩
    · go_wp2
      go_ret2
      refine ⟨HO.out.2.1, .inr ⟨by rw [HS.out]; omega, _, rfl, ?_, HO.out.2.2⟩⟩
      have := HO.out.1
      rw [HS.out]
      rwa [List.take_of_length_le (by rw [putL_len, HS.out]; omega)] at this

set_option maxHeartbeats 2000000 in
theorem putR_1 (n : Int) (w : World) (hs : szN n = 1) (h0 : 0 ≤ n) (h1 : n < 128) : Calls Try.prog 9 #[.int .i64 n] w (PutPost n w) := by
  obtain ⟨i0, hi0, hz0, hz1, hz2⟩ := info_parts info5
  have HS := hid hs
  clear hs
  go_enter Try.func9, Try.ntmps9
  go_wp2_with fail
  refine (sizeR_any n _).mono ?_
  rw [HS.out]
  rintro e w1 ⟨rfl, rfl⟩
  go_wp2_with fail
  go_loopg [5, 6] 1 (fun g v iv wr => ∃ i : Nat, i + g = 1 ∧ iv = .int .i64 i ∧ Own wr 5 1 v i (((putL n).take i).map u8) ∧ Below w.heap.size w wr ∧ ∀ k, v.ownBlock = some k → w.heap.size ≤ k)
  case atStart => exact ⟨0, rfl, rfl, Own.nil _ _ _, Below.refl _ _, by simp [Value.ownBlock]⟩
  case round =>
    obtain ⟨i, hi, rfl, ho, hb, hk⟩ := hrel
    obtain ⟨A, c, rfl, hc1, hc2⟩ := ho.form
    have HO := hid (And.intro ho (And.intro hb hk))
    clear ho hb hk
    rcases (show (i = 0 ∧ gk = 1) ∨ (i = 1 ∧ gk = 0) by omega) with ⟨rfl, rfl⟩ | ⟨rfl, rfl⟩
    · obtain ⟨z, hz⟩ : ∃ z : Int, z = n % 128 := ⟨_, rfl⟩
      have hcl : bits BinOp.and IntKind.i64 (n) 127 = n % 128 := i64_mask 7 (by omega) _ (by omega) (by omega)
      have hzu : u8 (byteN n 0 1) = .int .u8 z := by unfold u8; rw [byteN_toNat, hz]; unfold byteI; simp
      have htk : (putL n).take (0 + 1) = (putL n).take 0 ++ [byteN n 0 1] := by
        rw [List.take_succ, putL_at n 0 (by rw [HS.out]; omega), HS.out]; rfl
      have HT := hid (And.intro hzu htk)
      have hown := HO.out.1.alloc (.cells #[.int .u8 z] 5)
      have hrd := Rds.boxed wr #[.int .u8 z] 5 1 rfl
      clear hzu htk
      go_wp2_with (first
        | (at_builtin; simp only [← hz]
           refine wpList_append_own' _ rfl (.tmp 29) (.tmp 31) _ rfl 5 i0 _ 1 1 Try.underlying22 hi0 hz0 hz1 hz2 rfl (by omega) (.slice A 0 c) 0 _ rfl hown _ _ _ _ _ rfl hrd (by simp [Value.oneCell']) (by unfold maxLen; omega) (by omega) ?_
           intro v2 w2 o2 k2 at2))
      have F : Own w2 5 1 v2 (0 + 1) (((putL n).take (0 + 1)).map u8) ∧ Below w.heap.size w w2 ∧ ∀ k, v2.ownBlock = some k → w.heap.size ≤ k := by
        rw [HT.out.2, List.map_append, List.map_cons, List.map_nil, HT.out.1]
        have hb := HO.out.2.1
        have k1 : Kept [] wr (wr.alloc (.cells #[.int .u8 z] 5)) := (Kept.refl _ _).alloc _
        refine ⟨o2, (hb.trans (k1.below (by simp) hb.size)).trans (k2.below (fun x hx => HO.out.2.2 x (by simpa using hx)) (by have := hb.size; simp; omega)), fun k hk => ?_⟩
        rcases at2 k hk with h | h
        · exact HO.out.2.2 k h
        · have := hb.size; simp at h; omega
      have HF := hid F
      clear F o2 k2 at2 hown hrd
      go_wp2
      go_roundg 0
      case measure => omega
      case rel => exact ⟨1, rfl, rfl, HF.out⟩
    · go_wp2
      go_ret2
      refine ⟨HO.out.2.1, .inr ⟨by rw [HS.out]; omega, _, rfl, ?_, HO.out.2.2⟩⟩
      have := HO.out.1
      rw [HS.out]
      rwa [List.take_of_length_le (by rw [putL_len, HS.out]; omega)] at this

set_option maxHeartbeats 2000000 in
theorem putR_2 (n : Int) (w : World) (hs : szN n = 2) (h0 : 128 ≤ n) (h1 : n < 16384) : Calls Try.prog 9 #[.int .i64 n] w (PutPost n w) := by
  obtain ⟨i0, hi0, hz0, hz1, hz2⟩ := info_parts info5
  have HS := hid hs
  clear hs
  go_enter Try.func9, Try.ntmps9
  go_wp2_with fail
  refine (sizeR_any n _).mono ?_
  rw [HS.out]
  rintro e w1 ⟨rfl, rfl⟩
  go_wp2_with fail
  go_loopg [5, 6] 2 (fun g v iv wr => ∃ i : Nat, i + g = 2 ∧ iv = .int .i64 i ∧ Own wr 5 1 v i (((putL n).take i).map u8) ∧ Below w.heap.size w wr ∧ ∀ k, v.ownBlock = some k → w.heap.size ≤ k)
  case atStart => exact ⟨0, rfl, rfl, Own.nil _ _ _, Below.refl _ _, by simp [Value.ownBlock]⟩
  case round =>
    obtain ⟨i, hi, rfl, ho, hb, hk⟩ := hrel
    obtain ⟨A, c, rfl, hc1, hc2⟩ := ho.form
    have HO := hid (And.intro ho (And.intro hb hk))
    clear ho hb hk
    rcases (show (i = 0 ∧ gk = 2) ∨ (i = 1 ∧ gk = 1) ∨ (i = 2 ∧ gk = 0) by omega) with ⟨rfl, rfl⟩ | ⟨rfl, rfl⟩ | ⟨rfl, rfl⟩
    · obtain ⟨z, hz⟩ : ∃ z : Int, z = n % 128 + 128 := ⟨_, rfl⟩
      have hcl : bits BinOp.and IntKind.i64 (n) 127 = n % 128 := i64_mask 7 (by omega) _ (by omega) (by omega)
      have hor : bits BinOp.or IntKind.u8 (n % 128) 128 = n % 128 + 128 := by rw [u8_top _ (by omega) (by omega)]; omega
      have hzu : u8 (byteN n 0 2) = .int .u8 z := by unfold u8; rw [byteN_toNat, hz]; unfold byteI; simp
      have htk : (putL n).take (0 + 1) = (putL n).take 0 ++ [byteN n 0 2] := by
        rw [List.take_succ, putL_at n 0 (by rw [HS.out]; omega), HS.out]; rfl
      have HT := hid (And.intro hzu htk)
      have hown := HO.out.1.alloc (.cells #[.int .u8 z] 5)
      have hrd := Rds.boxed wr #[.int .u8 z] 5 1 rfl
      clear hzu htk
      go_wp2_with (first
        | (at_builtin; simp only [← hz]
           refine wpList_append_own' _ rfl (.tmp 29) (.tmp 31) _ rfl 5 i0 _ 1 1 Try.underlying22 hi0 hz0 hz1 hz2 rfl (by omega) (.slice A 0 c) 0 _ rfl hown _ _ _ _ _ rfl hrd (by simp [Value.oneCell']) (by unfold maxLen; omega) (by omega) ?_
           intro v2 w2 o2 k2 at2))
      have F : Own w2 5 1 v2 (0 + 1) (((putL n).take (0 + 1)).map u8) ∧ Below w.heap.size w w2 ∧ ∀ k, v2.ownBlock = some k → w.heap.size ≤ k := by
        rw [HT.out.2, List.map_append, List.map_cons, List.map_nil, HT.out.1]
        have hb := HO.out.2.1
        have k1 : Kept [] wr (wr.alloc (.cells #[.int .u8 z] 5)) := (Kept.refl _ _).alloc _
        refine ⟨o2, (hb.trans (k1.below (by simp) hb.size)).trans (k2.below (fun x hx => HO.out.2.2 x (by simpa using hx)) (by have := hb.size; simp; omega)), fun k hk => ?_⟩
        rcases at2 k hk with h | h
        · exact HO.out.2.2 k h
        · have := hb.size; simp at h; omega
      have HF := hid F
      clear F o2 k2 at2 hown hrd
      go_wp2
      go_roundg 1
      case measure => omega
      case rel => exact ⟨1, rfl, rfl, HF.out⟩
    · obtain ⟨z, hz⟩ : ∃ z : Int, z = n / 128 % 128 := ⟨_, rfl⟩
      have hcl : bits BinOp.and IntKind.i64 (n / 128) 127 = n / 128 % 128 := i64_mask 7 (by omega) _ (by omega) (by omega)
      have hzu : u8 (byteN n 1 2) = .int .u8 z := by unfold u8; rw [byteN_toNat, hz]; unfold byteI; simp
      have htk : (putL n).take (1 + 1) = (putL n).take 1 ++ [byteN n 1 2] := by
        rw [List.take_succ, putL_at n 1 (by rw [HS.out]; omega), HS.out]; rfl
      have HT := hid (And.intro hzu htk)
      have hown := HO.out.1.alloc (.cells #[.int .u8 z] 5)
      have hrd := Rds.boxed wr #[.int .u8 z] 5 1 rfl
      clear hzu htk
      go_wp2_with (first
        | (at_builtin; simp only [← hz]
           refine wpList_append_own' _ rfl (.tmp 29) (.tmp 31) _ rfl 5 i0 _ 1 1 Try.underlying22 hi0 hz0 hz1 hz2 rfl (by omega) (.slice A 1 c) 1 _ rfl hown _ _ _ _ _ rfl hrd (by simp [Value.oneCell']) (by unfold maxLen; omega) (by omega) ?_
           intro v2 w2 o2 k2 at2))
      have F : Own w2 5 1 v2 (1 + 1) (((putL n).take (1 + 1)).map u8) ∧ Below w.heap.size w w2 ∧ ∀ k, v2.ownBlock = some k → w.heap.size ≤ k := by
        rw [HT.out.2, List.map_append, List.map_cons, List.map_nil, HT.out.1]
        have hb := HO.out.2.1
        have k1 : Kept [] wr (wr.alloc (.cells #[.int .u8 z] 5)) := (Kept.refl _ _).alloc _
        refine ⟨o2, (hb.trans (k1.below (by simp) hb.size)).trans (k2.below (fun x hx => HO.out.2.2 x (by simpa using hx)) (by have := hb.size; simp; omega)), fun k hk => ?_⟩
        rcases at2 k hk with h | h
        · exact HO.out.2.2 k h
        · have := hb.size; simp at h; omega
      have HF := hid F
      clear F o2 k2 at2 hown hrd
      go_wp2
      go_roundg 0
      case measure => omega
      case rel => exact ⟨2, rfl, rfl, HF.out⟩
    · go_wp2
      go_ret2
      refine ⟨HO.out.2.1, .inr ⟨by rw [HS.out]; omega, _, rfl, ?_, HO.out.2.2⟩⟩
      have := HO.out.1
      rw [HS.out]
      rwa [List.take_of_length_le (by rw [putL_len, HS.out]; omega)] at this

set_option maxHeartbeats 2000000 in
theorem putR_3 (n : Int) (w : World) (hs : szN n = 3) (h0 : 16384 ≤ n) (h1 : n < 2097152) : Calls Try.prog 9 #[.int .i64 n] w (PutPost n w) := by
  obtain ⟨i0, hi0, hz0, hz1, hz2⟩ := info_parts info5
  have HS := hid hs
  clear hs
  go_enter Try.func9, Try.ntmps9
  go_wp2_with fail
  refine (sizeR_any n _).mono ?_
  rw [HS.out]
  rintro e w1 ⟨rfl, rfl⟩
  go_wp2_with fail
  go_loopg [5, 6] 3 (fun g v iv wr => ∃ i : Nat, i + g = 3 ∧ iv = .int .i64 i ∧ Own wr 5 1 v i (((putL n).take i).map u8) ∧ Below w.heap.size w wr ∧ ∀ k, v.ownBlock = some k → w.heap.size ≤ k)
  case atStart => exact ⟨0, rfl, rfl, Own.nil _ _ _, Below.refl _ _, by simp [Value.ownBlock]⟩
  case round =>
    obtain ⟨i, hi, rfl, ho, hb, hk⟩ := hrel
    obtain ⟨A, c, rfl, hc1, hc2⟩ := ho.form
    have HO := hid (And.intro ho (And.intro hb hk))
    clear ho hb hk
    rcases (show (i = 0 ∧ gk = 3) ∨ (i = 1 ∧ gk = 2) ∨ (i = 2 ∧ gk = 1) ∨ (i = 3 ∧ gk = 0) by omega) with ⟨rfl, rfl⟩ | ⟨rfl, rfl⟩ | ⟨rfl, rfl⟩ | ⟨rfl, rfl⟩
    · obtain ⟨z, hz⟩ : ∃ z : Int, z = n % 128 + 128 := ⟨_, rfl⟩
      have hcl : bits BinOp.and IntKind.i64 (n) 127 = n % 128 := i64_mask 7 (by omega) _ (by omega) (by omega)
      have hor : bits BinOp.or IntKind.u8 (n % 128) 128 = n % 128 + 128 := by rw [u8_top _ (by omega) (by omega)]; omega
      have hzu : u8 (byteN n 0 3) = .int .u8 z := by unfold u8; rw [byteN_toNat, hz]; unfold byteI; simp
      have htk : (putL n).take (0 + 1) = (putL n).take 0 ++ [byteN n 0 3] := by
        rw [List.take_succ, putL_at n 0 (by rw [HS.out]; omega), HS.out]; rfl
      have HT := hid (And.intro hzu htk)
      have hown := HO.out.1.alloc (.cells #[.int .u8 z] 5)
      have hrd := Rds.boxed wr #[.int .u8 z] 5 1 rfl
      clear hzu htk
      go_wp2_with (first
        | (at_builtin; simp only [← hz]
           refine wpList_append_own' _ rfl (.tmp 29) (.tmp 31) _ rfl 5 i0 _ 1 1 Try.underlying22 hi0 hz0 hz1 hz2 rfl (by omega) (.slice A 0 c) 0 _ rfl hown _ _ _ _ _ rfl hrd (by simp [Value.oneCell']) (by unfold maxLen; omega) (by omega) ?_
           intro v2 w2 o2 k2 at2))
      have F : Own w2 5 1 v2 (0 + 1) (((putL n).take (0 + 1)).map u8) ∧ Below w.heap.size w w2 ∧ ∀ k, v2.ownBlock = some k → w.heap.size ≤ k := by
        rw [HT.out.2, List.map_append, List.map_cons, List.map_nil, HT.out.1]
        have hb := HO.out.2.1
        have k1 : Kept [] wr (wr.alloc (.cells #[.int .u8 z] 5)) := (Kept.refl _ _).alloc _
        refine ⟨o2, (hb.trans (k1.below (by simp) hb.size)).trans (k2.below (fun x hx => HO.out.2.2 x (by simpa using hx)) (by have := hb.size; simp; omega)), fun k hk => ?_⟩
        rcases at2 k hk with h | h
        · exact HO.out.2.2 k h
        · have := hb.size; simp at h; omega
      have HF := hid F
      clear F o2 k2 at2 hown hrd
      go_wp2
      go_roundg 2
      case measure => omega
      case rel => exact ⟨1, rfl, rfl, HF.out⟩
    · obtain ⟨z, hz⟩ : ∃ z : Int, z = n / 128 % 128 + 128 := ⟨_, rfl⟩
      have hcl : bits BinOp.and IntKind.i64 (n / 128) 127 = n / 128 % 128 := i64_mask 7 (by omega) _ (by omega) (by omega)
      have hor : bits BinOp.or IntKind.u8 (n / 128 % 128) 128 = n / 128 % 128 + 128 := by rw [u8_top _ (by omega) (by omega)]; omega
      have hzu : u8 (byteN n 1 3) = .int .u8 z := by unfold u8; rw [byteN_toNat, hz]; unfold byteI; simp
      have htk : (putL n).take (1 + 1) = (putL n).take 1 ++ [byteN n 1 3] := by
        rw [List.take_succ, putL_at n 1 (by rw [HS.out]; omega), HS.out]; rfl
      have HT := hid (And.intro hzu htk)
      have hown := HO.out.1.alloc (.cells #[.int .u8 z] 5)
      have hrd := Rds.boxed wr #[.int .u8 z] 5 1 rfl
      clear hzu htk
      go_wp2_with (first
        | (at_builtin; simp only [← hz]
           refine wpList_append_own' _ rfl (.tmp 29) (.tmp 31) _ rfl 5 i0 _ 1 1 Try.underlying22 hi0 hz0 hz1 hz2 rfl (by omega) (.slice A 1 c) 1 _ rfl hown _ _ _ _ _ rfl hrd (by simp [Value.oneCell']) (by unfold maxLen; omega) (by omega) ?_
           intro v2 w2 o2 k2 at2))
      have F : Own w2 5 1 v2 (1 + 1) (((putL n).take (1 + 1)).map u8) ∧ Below w.heap.size w w2 ∧ ∀ k, v2.ownBlock = some k → w.heap.size ≤ k := by
        rw [HT.out.2, List.map_append, List.map_cons, List.map_nil, HT.out.1]
        have hb := HO.out.2.1
        have k1 : Kept [] wr (wr.alloc (.cells #[.int .u8 z] 5)) := (Kept.refl _ _).alloc _
        refine ⟨o2, (hb.trans (k1.below (by simp) hb.size)).trans (k2.below (fun x hx => HO.out.2.2 x (by simpa using hx)) (by have := hb.size; simp; omega)), fun k hk => ?_⟩
        rcases at2 k hk with h | h
        · exact HO.out.2.2 k h
        · have := hb.size; simp at h; omega
      have HF := hid F
      clear F o2 k2 at2 hown hrd
      go_wp2
      go_roundg 1
      case measure => omega
      case rel => exact ⟨2, rfl, rfl, HF.out⟩
    · obtain ⟨z, hz⟩ : ∃ z : Int, z = n / 16384 % 128 := ⟨_, rfl⟩
      have hcl : bits BinOp.and IntKind.i64 (n / 16384) 127 = n / 16384 % 128 := i64_mask 7 (by omega) _ (by omega) (by omega)
      have hzu : u8 (byteN n 2 3) = .int .u8 z := by unfold u8; rw [byteN_toNat, hz]; unfold byteI; simp
      have htk : (putL n).take (2 + 1) = (putL n).take 2 ++ [byteN n 2 3] := by
        rw [List.take_succ, putL_at n 2 (by rw [HS.out]; omega), HS.out]; rfl
      have HT := hid (And.intro hzu htk)
      have hown := HO.out.1.alloc (.cells #[.int .u8 z] 5)
      have hrd := Rds.boxed wr #[.int .u8 z] 5 1 rfl
      clear hzu htk
      go_wp2_with (first
        | (at_builtin; simp only [← hz]
           refine wpList_append_own' _ rfl (.tmp 29) (.tmp 31) _ rfl 5 i0 _ 1 1 Try.underlying22 hi0 hz0 hz1 hz2 rfl (by omega) (.slice A 2 c) 2 _ rfl hown _ _ _ _ _ rfl hrd (by simp [Value.oneCell']) (by unfold maxLen; omega) (by omega) ?_
           intro v2 w2 o2 k2 at2))
      have F : Own w2 5 1 v2 (2 + 1) (((putL n).take (2 + 1)).map u8) ∧ Below w.heap.size w w2 ∧ ∀ k, v2.ownBlock = some k → w.heap.size ≤ k := by
        rw [HT.out.2, List.map_append, List.map_cons, List.map_nil, HT.out.1]
        have hb := HO.out.2.1
        have k1 : Kept [] wr (wr.alloc (.cells #[.int .u8 z] 5)) := (Kept.refl _ _).alloc _
        refine ⟨o2, (hb.trans (k1.below (by simp) hb.size)).trans (k2.below (fun x hx => HO.out.2.2 x (by simpa using hx)) (by have := hb.size; simp; omega)), fun k hk => ?_⟩
        rcases at2 k hk with h | h
        · exact HO.out.2.2 k h
        · have := hb.size; simp at h; omega
      have HF := hid F
      clear F o2 k2 at2 hown hrd
      go_wp2
      go_roundg 0
      case measure => omega
      case rel => exact ⟨3, rfl, rfl, HF.out⟩
    · go_wp2
      go_ret2
      refine ⟨HO.out.2.1, .inr ⟨by rw [HS.out]; omega, _, rfl, ?_, HO.out.2.2⟩⟩
      have := HO.out.1
      rw [HS.out]
      rwa [List.take_of_length_le (by rw [putL_len, HS.out]; omega)] at this

set_option maxHeartbeats 2000000 in
theorem putR_4 (n : Int) (w : World) (hs : szN n = 4) (h0 : 2097152 ≤ n) (h1 : n < 268435456) : Calls Try.prog 9 #[.int .i64 n] w (PutPost n w) := by
  obtain ⟨i0, hi0, hz0, hz1, hz2⟩ := info_parts info5
  have HS := hid hs
  clear hs
  go_enter Try.func9, Try.ntmps9
  go_wp2_with fail
  refine (sizeR_any n _).mono ?_
  rw [HS.out]
  rintro e w1 ⟨rfl, rfl⟩
  go_wp2_with fail
  go_loopg [5, 6] 4 (fun g v iv wr => ∃ i : Nat, i + g = 4 ∧ iv = .int .i64 i ∧ Own wr 5 1 v i (((putL n).take i).map u8) ∧ Below w.heap.size w wr ∧ ∀ k, v.ownBlock = some k → w.heap.size ≤ k)
  case atStart => exact ⟨0, rfl, rfl, Own.nil _ _ _, Below.refl _ _, by simp [Value.ownBlock]⟩
  case round =>
    obtain ⟨i, hi, rfl, ho, hb, hk⟩ := hrel
    obtain ⟨A, c, rfl, hc1, hc2⟩ := ho.form
    have HO := hid (And.intro ho (And.intro hb hk))
    clear ho hb hk
    rcases (show (i = 0 ∧ gk = 4) ∨ (i = 1 ∧ gk = 3) ∨ (i = 2 ∧ gk = 2) ∨ (i = 3 ∧ gk = 1) ∨ (i = 4 ∧ gk = 0) by omega) with ⟨rfl, rfl⟩ | ⟨rfl, rfl⟩ | ⟨rfl, rfl⟩ | ⟨rfl, rfl⟩ | ⟨rfl, rfl⟩
    · obtain ⟨z, hz⟩ : ∃ z : Int, z = n % 128 + 128 := ⟨_, rfl⟩
      have hcl : bits BinOp.and IntKind.i64 (n) 127 = n % 128 := i64_mask 7 (by omega) _ (by omega) (by omega)
      have hor : bits BinOp.or IntKind.u8 (n % 128) 128 = n % 128 + 128 := by rw [u8_top _ (by omega) (by omega)]; omega
      have hzu : u8 (byteN n 0 4) = .int .u8 z := by unfold u8; rw [byteN_toNat, hz]; unfold byteI; simp
      have htk : (putL n).take (0 + 1) = (putL n).take 0 ++ [byteN n 0 4] := by
        rw [List.take_succ, putL_at n 0 (by rw [HS.out]; omega), HS.out]; rfl
      have HT := hid (And.intro hzu htk)
      have hown := HO.out.1.alloc (.cells #[.int .u8 z] 5)
      have hrd := Rds.boxed wr #[.int .u8 z] 5 1 rfl
      clear hzu htk
      go_wp2_with (first
        | (at_builtin; simp only [← hz]
           refine wpList_append_own' _ rfl (.tmp 29) (.tmp 31) _ rfl 5 i0 _ 1 1 Try.underlying22 hi0 hz0 hz1 hz2 rfl (by omega) (.slice A 0 c) 0 _ rfl hown _ _ _ _ _ rfl hrd (by simp [Value.oneCell']) (by unfold maxLen; omega) (by omega) ?_
           intro v2 w2 o2 k2 at2))
      have F : Own w2 5 1 v2 (0 + 1) (((putL n).take (0 + 1)).map u8) ∧ Below w.heap.size w w2 ∧ ∀ k, v2.ownBlock = some k → w.heap.size ≤ k := by
        rw [HT.out.2, List.map_append, List.map_cons, List.map_nil, HT.out.1]
        have hb := HO.out.2.1
        have k1 : Kept [] wr (wr.alloc (.cells #[.int .u8 z] 5)) := (Kept.refl _ _).alloc _
        refine ⟨o2, (hb.trans (k1.below (by simp) hb.size)).trans (k2.below (fun x hx => HO.out.2.2 x (by simpa using hx)) (by have := hb.size; simp; omega)), fun k hk => ?_⟩
        rcases at2 k hk with h | h
        · exact HO.out.2.2 k h
        · have := hb.size; simp at h; omega
      have HF := hid F
      clear F o2 k2 at2 hown hrd
      go_wp2
      go_roundg 3
      case measure => omega
      case rel => exact ⟨1, rfl, rfl, HF.out⟩
    · obtain ⟨z, hz⟩ : ∃ z : Int, z = n / 128 % 128 + 128 := ⟨_, rfl⟩
      have hcl : bits BinOp.and IntKind.i64 (n / 128) 127 = n / 128 % 128 := i64_mask 7 (by omega) _ (by omega) (by omega)
      have hor : bits BinOp.or IntKind.u8 (n / 128 % 128) 128 = n / 128 % 128 + 128 := by rw [u8_top _ (by omega) (by omega)]; omega
      have hzu : u8 (byteN n 1 4) = .int .u8 z := by unfold u8; rw [byteN_toNat, hz]; unfold byteI; simp
      have htk : (putL n).take (1 + 1) = (putL n).take 1 ++ [byteN n 1 4] := by
        rw [List.take_succ, putL_at n 1 (by rw [HS.out]; omega), HS.out]; rfl
      have HT := hid (And.intro hzu htk)
      have hown := HO.out.1.alloc (.cells #[.int .u8 z] 5)
      have hrd := Rds.boxed wr #[.int .u8 z] 5 1 rfl
      clear hzu htk
      go_wp2_with (first
        | (at_builtin; simp only [← hz]
           refine wpList_append_own' _ rfl (.tmp 29) (.tmp 31) _ rfl 5 i0 _ 1 1 Try.underlying22 hi0 hz0 hz1 hz2 rfl (by omega) (.slice A 1 c) 1 _ rfl hown _ _ _ _ _ rfl hrd (by simp [Value.oneCell']) (by unfold maxLen; omega) (by omega) ?_
           intro v2 w2 o2 k2 at2))
      have F : Own w2 5 1 v2 (1 + 1) (((putL n).take (1 + 1)).map u8) ∧ Below w.heap.size w w2 ∧ ∀ k, v2.ownBlock = some k → w.heap.size ≤ k := by
        rw [HT.out.2, List.map_append, List.map_cons, List.map_nil, HT.out.1]
        have hb := HO.out.2.1
        have k1 : Kept [] wr (wr.alloc (.cells #[.int .u8 z] 5)) := (Kept.refl _ _).alloc _
        refine ⟨o2, (hb.trans (k1.below (by simp) hb.size)).trans (k2.below (fun x hx => HO.out.2.2 x (by simpa using hx)) (by have := hb.size; simp; omega)), fun k hk => ?_⟩
        rcases at2 k hk with h | h
        · exact HO.out.2.2 k h
        · have := hb.size; simp at h; omega
      have HF := hid F
      clear F o2 k2 at2 hown hrd
      go_wp2
      go_roundg 2
      case measure => omega
      case rel => exact ⟨2, rfl, rfl, HF.out⟩
    · obtain ⟨z, hz⟩ : ∃ z : Int, z = n / 16384 % 128 + 128 := ⟨_, rfl⟩
      have hcl : bits BinOp.and IntKind.i64 (n / 16384) 127 = n / 16384 % 128 := i64_mask 7 (by omega) _ (by omega) (by omega)
      have hor : bits BinOp.or IntKind.u8 (n / 16384 % 128) 128 = n / 16384 % 128 + 128 := by rw [u8_top _ (by omega) (by omega)]; omega
      have hzu : u8 (byteN n 2 4) = .int .u8 z := by unfold u8; rw [byteN_toNat, hz]; unfold byteI; simp
      have htk : (putL n).take (2 + 1) = (putL n).take 2 ++ [byteN n 2 4] := by
        rw [List.take_succ, putL_at n 2 (by rw [HS.out]; omega), HS.out]; rfl
      have HT := hid (And.intro hzu htk)
      have hown := HO.out.1.alloc (.cells #[.int .u8 z] 5)
      have hrd := Rds.boxed wr #[.int .u8 z] 5 1 rfl
      clear hzu htk
      go_wp2_with (first
        | (at_builtin; simp only [← hz]
           refine wpList_append_own' _ rfl (.tmp 29) (.tmp 31) _ rfl 5 i0 _ 1 1 Try.underlying22 hi0 hz0 hz1 hz2 rfl (by omega) (.slice A 2 c) 2 _ rfl hown _ _ _ _ _ rfl hrd (by simp [Value.oneCell']) (by unfold maxLen; omega) (by omega) ?_
           intro v2 w2 o2 k2 at2))
      have F : Own w2 5 1 v2 (2 + 1) (((putL n).take (2 + 1)).map u8) ∧ Below w.heap.size w w2 ∧ ∀ k, v2.ownBlock = some k → w.heap.size ≤ k := by
        rw [HT.out.2, List.map_append, List.map_cons, List.map_nil, HT.out.1]
        have hb := HO.out.2.1
        have k1 : Kept [] wr (wr.alloc (.cells #[.int .u8 z] 5)) := (Kept.refl _ _).alloc _
        refine ⟨o2, (hb.trans (k1.below (by simp) hb.size)).trans (k2.below (fun x hx => HO.out.2.2 x (by simpa using hx)) (by have := hb.size; simp; omega)), fun k hk => ?_⟩
        rcases at2 k hk with h | h
        · exact HO.out.2.2 k h
        · have := hb.size; simp at h; omega
      have HF := hid F
      clear F o2 k2 at2 hown hrd
      go_wp2
      go_roundg 1
      case measure => omega
      case rel => exact ⟨3, rfl, rfl, HF.out⟩
    · obtain ⟨z, hz⟩ : ∃ z : Int, z = n / 2097152 % 128 := ⟨_, rfl⟩
      have hcl : bits BinOp.and IntKind.i64 (n / 2097152) 127 = n / 2097152 % 128 := i64_mask 7 (by omega) _ (by omega) (by omega)
      have hzu : u8 (byteN n 3 4) = .int .u8 z := by unfold u8; rw [byteN_toNat, hz]; unfold byteI; simp
      have htk : (putL n).take (3 + 1) = (putL n).take 3 ++ [byteN n 3 4] := by
        rw [List.take_succ, putL_at n 3 (by rw [HS.out]; omega), HS.out]; rfl
      have HT := hid (And.intro hzu htk)
      have hown := HO.out.1.alloc (.cells #[.int .u8 z] 5)
      have hrd := Rds.boxed wr #[.int .u8 z] 5 1 rfl
      clear hzu htk
      go_wp2_with (first
        | (at_builtin; simp only [← hz]
           refine wpList_append_own' _ rfl (.tmp 29) (.tmp 31) _ rfl 5 i0 _ 1 1 Try.underlying22 hi0 hz0 hz1 hz2 rfl (by omega) (.slice A 3 c) 3 _ rfl hown _ _ _ _ _ rfl hrd (by simp [Value.oneCell']) (by unfold maxLen; omega) (by omega) ?_
           intro v2 w2 o2 k2 at2))
      have F : Own w2 5 1 v2 (3 + 1) (((putL n).take (3 + 1)).map u8) ∧ Below w.heap.size w w2 ∧ ∀ k, v2.ownBlock = some k → w.heap.size ≤ k := by
        rw [HT.out.2, List.map_append, List.map_cons, List.map_nil, HT.out.1]
        have hb := HO.out.2.1
        have k1 : Kept [] wr (wr.alloc (.cells #[.int .u8 z] 5)) := (Kept.refl _ _).alloc _
        refine ⟨o2, (hb.trans (k1.below (by simp) hb.size)).trans (k2.below (fun x hx => HO.out.2.2 x (by simpa using hx)) (by have := hb.size; simp; omega)), fun k hk => ?_⟩
        rcases at2 k hk with h | h
        · exact HO.out.2.2 k h
        · have := hb.size; simp at h; omega
      have HF := hid F
      clear F o2 k2 at2 hown hrd
      go_wp2
      go_roundg 0
      case measure => omega
      case rel => exact ⟨4, rfl, rfl, HF.out⟩
    · go_wp2
      go_ret2
      refine ⟨HO.out.2.1, .inr ⟨by rw [HS.out]; omega, _, rfl, ?_, HO.out.2.2⟩⟩
      have := HO.out.1
      rw [HS.out]
      rwa [List.take_of_length_le (by rw [putL_len, HS.out]; omega)] at this
end Go.Proofs.Ytepihchlfbdnjaa
