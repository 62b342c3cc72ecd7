/- The contracts of both Backs. -/
import Derived.Test.YtpjapcgidjoliaaDoorD
import Derived.Test.YtpjapcgidjoliaaDoorConv
set_option linter.all false
namespace Go.Proofs.YtpjapcgidjoliaaDoor
open Go.RowKit Go.Hub Go.Lib

def i32s (ns : List Int) : List Value := ns.map (Value.int .i32)
theorem info5 : (Tryd.prog.info? 5).map (fun i => (i.zero, i.size, i.bytes)) = some (some (.int .u8 0), 1, 1) := by kernel_rfl
theorem info21 : (Tryd.prog.info? 21).map (fun i => (i.zero, i.size, i.bytes)) = some (some (.int .i32 0), 1, 4) := by kernel_rfl

set_option maxRecDepth 100000 in
set_option maxHeartbeats 4000000 in
theorem back_any (A : Option Addr) (c : Nat) (ns : List Int) (w : World) (h : Rds w w.heap.size 1 A ns.length (i32s ns)) :
    Calls Tryd.prog 21 #[.slice A ns.length c] w fun e w' => e = .returned (.string ⟨(encs ns).toArray⟩) ∧ w' = w := by
  have hcv := conv_runes (c := c) h Tryd.underlying26 Tryd.underlying21 Tryd.underlying9
  go_enter Tryd.func21, Tryd.ntmps21
  go_wp2
  go_ret
  exact ⟨rfl, rfl⟩

/-! ### arms (printed by gen_e.py) -/
theorem i32_mask (i : Nat) (hi : i ≤ 31) (a : Int) (ha : 0 ≤ a) (ha1 : a < 2 ^ 31) : bits .and .i32 a (2 ^ i - 1) = a % 2 ^ i := bits_mask .i32 31 (by decide) wraps_i32 i hi a ha ha1
theorem rds_new (w : World) (e : TypeId) (cs : Array Value) : Rds (w.alloc (.cells cs e)) (w.heap.size + 1) 1 (some ⟨w.heap.size, 0, none⟩) cs.size cs.toList :=
  ⟨by simp, fun _ => ⟨w.heap.size, 0, rfl, by omega, fun j u hu => by rw [Nat.zero_add, World.cell?_alloc_new]; simpa using hu⟩⟩
theorem back_end {w wr w2 : World} {A1 : Option Addr} {n c1 : Nat} {v2 : Value} {l l2 : List UInt8} {x : Int} {m : Nat} {cs : List Value} {o : Obj} (ho : Own wr 5 1 (Value.slice A1 n c1) n (l.map u8)) (hb : Below w.heap.size w wr) (hk : ∀ k, (Value.slice A1 n c1).ownBlock = some k → w.heap.size ≤ k)
    (ht : l2 = l ++ encodeRune x) (hc : cs = runeCells x) (o2 : Own w2 5 1 v2 (n + m) (l.map u8 ++ cs)) (k2 : Kept (Value.slice A1 n c1).ownBlock.toList (wr.alloc o) w2)
    (at2 : ∀ k, v2.ownBlock = some k → (Value.slice A1 n c1).ownBlock = some k ∨ (wr.alloc o).heap.size ≤ k) :
    Own w2 5 1 v2 (n + m) (l2.map u8) ∧ Below w.heap.size w w2 ∧ ∀ k, v2.ownBlock = some k → w.heap.size ≤ k := by
  have k1 : Kept [] wr (wr.alloc o) := (Kept.refl _ _).alloc _
  refine ⟨?_, (hb.trans (k1.below (by simp) hb.size)).trans (k2.below (fun x hx => hk x (by simpa using hx)) (by have := hb.size; simp; omega)), fun k hkk => ?_⟩
  · rw [ht, List.map_append]
    have e : (encodeRune x).map u8 = runeCells x := byteCells_encodeRune x
    rw [e, ← hc]
    exact o2
  · rcases at2 k hkk with h | h
    · exact hk k h
    · have := hb.size; simp at h; omega
set_option maxRecDepth 100000 in
set_option maxHeartbeats 16000000 in
theorem backR_any (A : Option Addr) (c : Nat) (ns : List Int) (w : World) (h : Rds w w.heap.size 1 A ns.length (i32s ns)) (hl : ns.length ≤ 1000000) (hr : ∀ n ∈ ns, -2147483648 ≤ n ∧ n ≤ 2147483647) :
    Calls Tryd.prog 22 #[.slice A ns.length c] w fun e w' => e = .returned (.string ⟨(encs ns).toArray⟩) ∧ Below w.heap.size w w' := by
  obtain ⟨i0, hi0, hz0, hz1, hz2⟩ := info_parts info5
  have HH := hid h
  have HRG := hid hr
  clear h hr
  go_enter Tryd.func22, Tryd.ntmps22
  go_wp2
  go_loopg [3, 4] ns.length (fun g v iv wr => ∃ i n : Nat, i + g = ns.length ∧ iv = .int .i64 i ∧ (Own wr 5 1 v n ((encs (ns.take i)).map u8)) ∧ n ≤ 4 * i ∧ Below w.heap.size w wr ∧ ∀ k, v.ownBlock = some k → w.heap.size ≤ k)
  case atStart => exact ⟨0, 0, by omega, rfl, by simpa [encs] using Own.nil _ _ _, by omega, Below.refl _ _, by simp [Value.ownBlock]⟩
  case round =>
    obtain ⟨i, n, hi, rfl, ho, hn4, hb, hk⟩ := hrel
    obtain ⟨A1, c1, rfl, hc1, hc2⟩ := ho.form
    have HO := hid (And.intro ho (And.intro hb hk))
    have HI := hid hi
    clear ho hk
    by_cases hlt : i < ns.length
    · obtain ⟨x, hx⟩ : ∃ x, ns[i]? = some x := ⟨ns[i], by simp [hlt]⟩
      obtain ⟨b, off, rfl, hbw, hcl⟩ := HH.out.2 (by omega)
      have hcell := (hb.cell (p := ⟨b, off + i, none⟩) hbw).trans (hcl i (.int .i32 x) (by simp [i32s, hx]))
      have hxr := HRG.out x (List.mem_of_getElem? hx)
      have HX := hid hx
      have hi2 : (i : Int) < (ns.length : Int) := by omega
      have htk : encs (ns.take (i + 1)) = encs (ns.take i) ++ encodeRune x := by
        rw [List.take_succ, hx]; simp [encs]
      have HT := hid htk
      clear hx hcl hi hb htk hbw
      by_cases h1 : 0 ≤ x ∧ x < 128
      · obtain ⟨g1, g2⟩ := h1
        have i1 : ¬ x < 0 := by omega
        have i2 : ¬ (1114111 : Int) < x := by omega
        have i3 : ¬ (55296 : Int) ≤ x := by omega
        have HC := hid (show runeCells x = [.int .u8 x] by unfold runeCells; rw [encodeRuneZ_one (by omega) (by omega)]; rfl)
        have hown := HO.out.1.alloc (.cells #[.int .u8 x] 5)
        have hrd := rds_new wr 5 #[.int .u8 x]
        go_wp2_with (first
          | (at_builtin
             refine wpList_append_own' _ rfl (.tmp 54) (.tmp 57) _ rfl 5 i0 _ 1 1 Tryd.underlying22 hi0 hz0 hz1 hz2 rfl (by omega) (.slice A1 n c1) n _ rfl hown _ _ _ _ _ rfl hrd (by simp [Value.oneCell']) (by unfold maxLen; simp; omega) (by simp; omega) ?_
             intro v2 w2 o2 k2 at2))
        have HF := hid (back_end HO.out.1 HO.out.2.1 HO.out.2.2 HT.out HC.out.symm o2 k2 at2)
        clear o2 k2 at2 hown hrd
        go_wp2
        go_roundg (gk - 1)
        case measure => have := HI.out; omega
        case rel => exact ⟨i + 1, n + 1, by have := HI.out; omega, by go_num, HF.out.1, by omega, HF.out.2⟩
      by_cases h2 : 128 ≤ x ∧ x < 2048
      · obtain ⟨g1, g2⟩ := h2
        have i1 : ¬ x < 0 := by omega
        have i2 : ¬ (1114111 : Int) < x := by omega
        have i3 : ¬ (55296 : Int) ≤ x := by omega
        obtain ⟨z0, hz0⟩ : ∃ z : Int, z = 192 + x / 64 := ⟨_, rfl⟩
        obtain ⟨z1, hz1⟩ : ∃ z : Int, z = 128 + x % 64 := ⟨_, rfl⟩
        have HC := hid (show runeCells x = [.int .u8 z0, .int .u8 z1] by unfold runeCells; rw [encodeRuneZ_two (by omega) (by omega)]; simp only [hz0, hz1] <;> simp)
        have kz0 : 192 + x / 64 = z0 := hz0.symm
        have mz0 : z0 % 256 = z0 := by omega
        have kz1 : bits .or .i32 128 (bits .and .i32 x 63) = z1 := by rw [hz1]; rw [show bits .and .i32 x 63 = x % 64 from i32_mask 6 (by omega) _ (by omega) (by omega)]; exact i32_or 6 _ _ (by omega) (by omega) (by omega) (by omega) (by omega) (by omega)
        have mz1 : z1 % 256 = z1 := by omega
        clear hz0 hz1
        have hown := HO.out.1.alloc (.cells #[.int .u8 z0, .int .u8 z1] 5)
        have hrd := rds_new wr 5 #[.int .u8 z0, .int .u8 z1]
        go_wp2_with (first
          | (at_builtin
             refine wpList_append_own' _ rfl (.tmp 62) (.tmp 71) _ rfl 5 i0 _ 1 1 Tryd.underlying22 hi0 hz0 hz1 hz2 rfl (by omega) (.slice A1 n c1) n _ rfl hown _ _ _ _ _ rfl hrd (by simp [Value.oneCell']) (by unfold maxLen; simp; omega) (by simp; omega) ?_
             intro v2 w2 o2 k2 at2))
        have HF := hid (back_end HO.out.1 HO.out.2.1 HO.out.2.2 HT.out HC.out.symm o2 k2 at2)
        clear o2 k2 at2 hown hrd
        go_wp2
        go_roundg (gk - 1)
        case measure => have := HI.out; omega
        case rel => exact ⟨i + 1, n + 2, by have := HI.out; omega, by go_num, HF.out.1, by omega, HF.out.2⟩
      by_cases h3 : 2048 ≤ x ∧ x < 55296
      · obtain ⟨g1, g2⟩ := h3
        have i1 : ¬ x < 0 := by omega
        have i2 : ¬ (1114111 : Int) < x := by omega
        have i3 : ¬ (55296 : Int) ≤ x := by omega
        obtain ⟨z0, hz0⟩ : ∃ z : Int, z = 224 + x / 4096 := ⟨_, rfl⟩
        obtain ⟨z1, hz1⟩ : ∃ z : Int, z = 128 + x / 64 % 64 := ⟨_, rfl⟩
        obtain ⟨z2, hz2⟩ : ∃ z : Int, z = 128 + x % 64 := ⟨_, rfl⟩
        have HC := hid (show runeCells x = [.int .u8 z0, .int .u8 z1, .int .u8 z2] by unfold runeCells; rw [encodeRuneZ_three (by omega)]; simp only [hz0, hz1, hz2] <;> simp)
        have kz0 : bits .or .i32 224 (x / 4096) = z0 := by rw [hz0]; exact i32_or 4 _ _ (by omega) (by omega) (by omega) (by omega) (by omega) (by omega)
        have mz0 : z0 % 256 = z0 := by omega
        have kz1 : bits .or .i32 128 (bits .and .i32 (x / 64) 63) = z1 := by rw [hz1]; rw [show bits .and .i32 (x / 64) 63 = (x / 64) % 64 from i32_mask 6 (by omega) _ (by omega) (by omega)]; exact i32_or 6 _ _ (by omega) (by omega) (by omega) (by omega) (by omega) (by omega)
        have mz1 : z1 % 256 = z1 := by omega
        have kz2 : bits .or .i32 128 (bits .and .i32 x 63) = z2 := by rw [hz2]; rw [show bits .and .i32 x 63 = x % 64 from i32_mask 6 (by omega) _ (by omega) (by omega)]; exact i32_or 6 _ _ (by omega) (by omega) (by omega) (by omega) (by omega) (by omega)
        have mz2 : z2 % 256 = z2 := by omega
        clear hz0 hz1 hz2
        have hown := HO.out.1.alloc (.cells #[.int .u8 z0, .int .u8 z1, .int .u8 z2] 5)
        have hrd := rds_new wr 5 #[.int .u8 z0, .int .u8 z1, .int .u8 z2]
        go_wp2_with (first
          | (at_builtin
             refine wpList_append_own' _ rfl (.tmp 76) (.tmp 90) _ rfl 5 i0 _ 1 1 Tryd.underlying22 hi0 hz0 hz1 hz2 rfl (by omega) (.slice A1 n c1) n _ rfl hown _ _ _ _ _ rfl hrd (by simp [Value.oneCell']) (by unfold maxLen; simp; omega) (by simp; omega) ?_
             intro v2 w2 o2 k2 at2))
        have HF := hid (back_end HO.out.1 HO.out.2.1 HO.out.2.2 HT.out HC.out.symm o2 k2 at2)
        clear o2 k2 at2 hown hrd
        go_wp2
        go_roundg (gk - 1)
        case measure => have := HI.out; omega
        case rel => exact ⟨i + 1, n + 3, by have := HI.out; omega, by go_num, HF.out.1, by omega, HF.out.2⟩
      by_cases h3 : 57344 ≤ x ∧ x < 65536
      · obtain ⟨g1, g2⟩ := h3
        have i1 : ¬ x < 0 := by omega
        have i2 : ¬ (1114111 : Int) < x := by omega
        have i3 : (55296 : Int) ≤ x := by omega
        have i4 : ¬ x < (57344 : Int) := by omega
        obtain ⟨z0, hz0⟩ : ∃ z : Int, z = 224 + x / 4096 := ⟨_, rfl⟩
        obtain ⟨z1, hz1⟩ : ∃ z : Int, z = 128 + x / 64 % 64 := ⟨_, rfl⟩
        obtain ⟨z2, hz2⟩ : ∃ z : Int, z = 128 + x % 64 := ⟨_, rfl⟩
        have HC := hid (show runeCells x = [.int .u8 z0, .int .u8 z1, .int .u8 z2] by unfold runeCells; rw [encodeRuneZ_three (by omega)]; simp only [hz0, hz1, hz2] <;> simp)
        have kz0 : bits .or .i32 224 (x / 4096) = z0 := by rw [hz0]; exact i32_or 4 _ _ (by omega) (by omega) (by omega) (by omega) (by omega) (by omega)
        have mz0 : z0 % 256 = z0 := by omega
        have kz1 : bits .or .i32 128 (bits .and .i32 (x / 64) 63) = z1 := by rw [hz1]; rw [show bits .and .i32 (x / 64) 63 = (x / 64) % 64 from i32_mask 6 (by omega) _ (by omega) (by omega)]; exact i32_or 6 _ _ (by omega) (by omega) (by omega) (by omega) (by omega) (by omega)
        have mz1 : z1 % 256 = z1 := by omega
        have kz2 : bits .or .i32 128 (bits .and .i32 x 63) = z2 := by rw [hz2]; rw [show bits .and .i32 x 63 = x % 64 from i32_mask 6 (by omega) _ (by omega) (by omega)]; exact i32_or 6 _ _ (by omega) (by omega) (by omega) (by omega) (by omega) (by omega)
        have mz2 : z2 % 256 = z2 := by omega
        clear hz0 hz1 hz2
        have hown := HO.out.1.alloc (.cells #[.int .u8 z0, .int .u8 z1, .int .u8 z2] 5)
        have hrd := rds_new wr 5 #[.int .u8 z0, .int .u8 z1, .int .u8 z2]
        go_wp2_with (first
          | (at_builtin
             refine wpList_append_own' _ rfl (.tmp 76) (.tmp 90) _ rfl 5 i0 _ 1 1 Tryd.underlying22 hi0 hz0 hz1 hz2 rfl (by omega) (.slice A1 n c1) n _ rfl hown _ _ _ _ _ rfl hrd (by simp [Value.oneCell']) (by unfold maxLen; simp; omega) (by simp; omega) ?_
             intro v2 w2 o2 k2 at2))
        have HF := hid (back_end HO.out.1 HO.out.2.1 HO.out.2.2 HT.out HC.out.symm o2 k2 at2)
        clear o2 k2 at2 hown hrd
        go_wp2
        go_roundg (gk - 1)
        case measure => have := HI.out; omega
        case rel => exact ⟨i + 1, n + 3, by have := HI.out; omega, by go_num, HF.out.1, by omega, HF.out.2⟩
      by_cases h4 : 65536 ≤ x ∧ x ≤ 1114111
      · obtain ⟨g1, g2⟩ := h4
        have i1 : ¬ x < 0 := by omega
        have i2 : ¬ (1114111 : Int) < x := by omega
        have i3 : (55296 : Int) ≤ x := by omega
        have i4 : ¬ x < (57344 : Int) := by omega
        obtain ⟨z0, hz0⟩ : ∃ z : Int, z = 240 + x / 262144 := ⟨_, rfl⟩
        obtain ⟨z1, hz1⟩ : ∃ z : Int, z = 128 + x / 4096 % 64 := ⟨_, rfl⟩
        obtain ⟨z2, hz2⟩ : ∃ z : Int, z = 128 + x / 64 % 64 := ⟨_, rfl⟩
        obtain ⟨z3, hz3⟩ : ∃ z : Int, z = 128 + x % 64 := ⟨_, rfl⟩
        have HC := hid (show runeCells x = [.int .u8 z0, .int .u8 z1, .int .u8 z2, .int .u8 z3] by unfold runeCells; rw [encodeRuneZ_four (by omega) (by omega)]; simp only [hz0, hz1, hz2, hz3] <;> simp)
        have kz0 : bits .or .i32 240 (x / 262144) = z0 := by rw [hz0]; exact i32_or 3 _ _ (by omega) (by omega) (by omega) (by omega) (by omega) (by omega)
        have mz0 : z0 % 256 = z0 := by omega
        have kz1 : bits .or .i32 128 (bits .and .i32 (x / 4096) 63) = z1 := by rw [hz1]; rw [show bits .and .i32 (x / 4096) 63 = (x / 4096) % 64 from i32_mask 6 (by omega) _ (by omega) (by omega)]; exact i32_or 6 _ _ (by omega) (by omega) (by omega) (by omega) (by omega) (by omega)
        have mz1 : z1 % 256 = z1 := by omega
        have kz2 : bits .or .i32 128 (bits .and .i32 (x / 64) 63) = z2 := by rw [hz2]; rw [show bits .and .i32 (x / 64) 63 = (x / 64) % 64 from i32_mask 6 (by omega) _ (by omega) (by omega)]; exact i32_or 6 _ _ (by omega) (by omega) (by omega) (by omega) (by omega) (by omega)
        have mz2 : z2 % 256 = z2 := by omega
        have kz3 : bits .or .i32 128 (bits .and .i32 x 63) = z3 := by rw [hz3]; rw [show bits .and .i32 x 63 = x % 64 from i32_mask 6 (by omega) _ (by omega) (by omega)]; exact i32_or 6 _ _ (by omega) (by omega) (by omega) (by omega) (by omega) (by omega)
        have mz3 : z3 % 256 = z3 := by omega
        clear hz0 hz1 hz2 hz3
        have hown := HO.out.1.alloc (.cells #[.int .u8 z0, .int .u8 z1, .int .u8 z2, .int .u8 z3] 5)
        have hrd := rds_new wr 5 #[.int .u8 z0, .int .u8 z1, .int .u8 z2, .int .u8 z3]
        go_wp2_with (first
          | (at_builtin
             refine wpList_append_own' _ rfl (.tmp 30) (.tmp 49) _ rfl 5 i0 _ 1 1 Tryd.underlying22 hi0 hz0 hz1 hz2 rfl (by omega) (.slice A1 n c1) n _ rfl hown _ _ _ _ _ rfl hrd (by simp [Value.oneCell']) (by unfold maxLen; simp; omega) (by simp; omega) ?_
             intro v2 w2 o2 k2 at2))
        have HF := hid (back_end HO.out.1 HO.out.2.1 HO.out.2.2 HT.out HC.out.symm o2 k2 at2)
        clear o2 k2 at2 hown hrd
        go_wp2
        go_roundg (gk - 1)
        case measure => have := HI.out; omega
        case rel => exact ⟨i + 1, n + 4, by have := HI.out; omega, by go_num, HF.out.1, by omega, HF.out.2⟩
      by_cases h5 : x < 0
      · clear h1 h2 h3 h4
        have HC := hid (show runeCells x = [.int .u8 239, .int .u8 191, .int .u8 189] by unfold runeCells; rw [encodeRuneZ_bad (by omega)]; rfl)
        have kz0 : bits .or .i32 224 15 = 239 := by decide
        have kz1 : bits .and .i32 1023 63 = 63 := by decide
        have kz2 : bits .or .i32 128 63 = 191 := by decide
        have kz3 : bits .and .i32 65533 63 = 61 := by decide
        have kz4 : bits .or .i32 128 61 = 189 := by decide
        have hown := HO.out.1.alloc (.cells #[.int .u8 239, .int .u8 191, .int .u8 189] 5)
        have hrd := rds_new wr 5 #[.int .u8 239, .int .u8 191, .int .u8 189]
        go_wp2_with (first
          | (at_builtin
             refine wpList_append_own' _ rfl (.tmp 76) (.tmp 90) _ rfl 5 i0 _ 1 1 Tryd.underlying22 hi0 hz0 hz1 hz2 rfl (by omega) (.slice A1 n c1) n _ rfl hown _ _ _ _ _ rfl hrd (by simp [Value.oneCell']) (by unfold maxLen; simp; omega) (by simp; omega) ?_
             intro v2 w2 o2 k2 at2))
        have HF := hid (back_end HO.out.1 HO.out.2.1 HO.out.2.2 HT.out HC.out.symm o2 k2 at2)
        clear o2 k2 at2 hown hrd
        go_wp2
        go_roundg (gk - 1)
        case measure => have := HI.out; omega
        case rel => exact ⟨i + 1, n + 3, by have := HI.out; omega, by go_num, HF.out.1, by omega, HF.out.2⟩
      by_cases h6 : (1114111 : Int) < x
      · clear h1 h2 h3 h4
        have HC := hid (show runeCells x = [.int .u8 239, .int .u8 191, .int .u8 189] by unfold runeCells; rw [encodeRuneZ_bad (by omega)]; rfl)
        have kz0 : bits .or .i32 224 15 = 239 := by decide
        have kz1 : bits .and .i32 1023 63 = 63 := by decide
        have kz2 : bits .or .i32 128 63 = 191 := by decide
        have kz3 : bits .and .i32 65533 63 = 61 := by decide
        have kz4 : bits .or .i32 128 61 = 189 := by decide
        have hown := HO.out.1.alloc (.cells #[.int .u8 239, .int .u8 191, .int .u8 189] 5)
        have hrd := rds_new wr 5 #[.int .u8 239, .int .u8 191, .int .u8 189]
        go_wp2_with (first
          | (at_builtin
             refine wpList_append_own' _ rfl (.tmp 76) (.tmp 90) _ rfl 5 i0 _ 1 1 Tryd.underlying22 hi0 hz0 hz1 hz2 rfl (by omega) (.slice A1 n c1) n _ rfl hown _ _ _ _ _ rfl hrd (by simp [Value.oneCell']) (by unfold maxLen; simp; omega) (by simp; omega) ?_
             intro v2 w2 o2 k2 at2))
        have HF := hid (back_end HO.out.1 HO.out.2.1 HO.out.2.2 HT.out HC.out.symm o2 k2 at2)
        clear o2 k2 at2 hown hrd
        go_wp2
        go_roundg (gk - 1)
        case measure => have := HI.out; omega
        case rel => exact ⟨i + 1, n + 3, by have := HI.out; omega, by go_num, HF.out.1, by omega, HF.out.2⟩
      · have i3 : (55296 : Int) ≤ x := by omega
        have i4 : x < (57344 : Int) := by omega
        clear h1 h2 h3 h4
        have HC := hid (show runeCells x = [.int .u8 239, .int .u8 191, .int .u8 189] by unfold runeCells; rw [encodeRuneZ_bad (by omega)]; rfl)
        have kz0 : bits .or .i32 224 15 = 239 := by decide
        have kz1 : bits .and .i32 1023 63 = 63 := by decide
        have kz2 : bits .or .i32 128 63 = 191 := by decide
        have kz3 : bits .and .i32 65533 63 = 61 := by decide
        have kz4 : bits .or .i32 128 61 = 189 := by decide
        have hown := HO.out.1.alloc (.cells #[.int .u8 239, .int .u8 191, .int .u8 189] 5)
        have hrd := rds_new wr 5 #[.int .u8 239, .int .u8 191, .int .u8 189]
        go_wp2_with (first
          | (at_builtin
             refine wpList_append_own' _ rfl (.tmp 76) (.tmp 90) _ rfl 5 i0 _ 1 1 Tryd.underlying22 hi0 hz0 hz1 hz2 rfl (by omega) (.slice A1 n c1) n _ rfl hown _ _ _ _ _ rfl hrd (by simp [Value.oneCell']) (by unfold maxLen; simp; omega) (by simp; omega) ?_
             intro v2 w2 o2 k2 at2))
        have HF := hid (back_end HO.out.1 HO.out.2.1 HO.out.2.2 HT.out HC.out.symm o2 k2 at2)
        clear o2 k2 at2 hown hrd
        go_wp2
        go_roundg (gk - 1)
        case measure => have := HI.out; omega
        case rel => exact ⟨i + 1, n + 3, by have := HI.out; omega, by go_num, HF.out.1, by omega, HF.out.2⟩
    · have hi2 : ¬ (i : Int) < (ns.length : Int) := by omega
      have HE := hid (show ns.take i = ns from List.take_of_length_le (by omega))
      have hcv := ((Bs.of_own (E := [5]) (B := 0) HO.out.1 (by simp)))
      have hln := hcv.1
      rw [HE.out] at hcv hln
      have hcv := (hcv.conv (P := Tryd.prog) (src := 22) (dst := 9) (c := c1) Tryd.underlying22 Tryd.underlying5 Tryd.underlying9)
      have HB := hid hb
      clear hi hlt hb hln
      go_wp2
      go_ret
      exact ⟨rfl, HB.out⟩
end Go.Proofs.YtpjapcgidjoliaaDoor
