/- Merged by program (shrink.py): contracts and plain laws that the claim's statement uses, part 5. -/
import Derived.Test.YtkdeedhjkjffpaaMc4
set_option linter.all false

namespace Go.Proofs.Ytkdeedhjkjffpaa
open Go.RowKit Go.Hub Go.Lib
theorem getD_some {l : List UInt8} {k : Nat} (h : k < l.length) : l[k]? = some (l.getD k 0) := by simp [List.getD, h]
section
variable (b off cap : Nat) (l : List UInt8) (w : World) (hne : 0 < l.length) (hbig : l.length ≤ maxLen)
  (hc : ∀ j, j < l.length → w.cell? ⟨b, off + j, none⟩ = some (.int .u8 ((l.getD j 0).toNat : Int)))
set_option maxRecDepth 100000 in
set_option maxHeartbeats 2000000 in
include hne hc hbig in
theorem step_ascii (h : (l.getD 0 0).toNat < 128) : Calls Try.prog 55 #[.slice (some ⟨b, off, none⟩) l.length cap] w fun e w' => e = .returned (stepV l) ∧ w' = w := by
  have h0 := hc 0 hne
  rw [Nat.add_zero] at h0
  have hlt := (l.getD 0 0).toNat_lt
  have hl2 : (0 : Int) < (l.length : Int) := by omega
  have HS := hid (stepV_ok (dec_ascii h) (by omega))
  obtain ⟨x, hx⟩ : ∃ x, x = (l.getD 0 0).toNat := ⟨_, rfl⟩
  rw [← hx] at h0 h hlt HS
  have hi : (x : Int) < 128 := by omega
  clear hc hx
  go_enter Try.func55, Try.ntmps55
  go_wp2
  go_ret3
  exact ⟨by rw [HS.out]; rfl, rfl⟩
set_option maxRecDepth 100000 in
set_option maxHeartbeats 2000000 in
include hne hc hbig in
theorem step_none (h1 : 128 ≤ (l.getD 0 0).toNat) (h2 : (l.getD 0 0).toNat < 192 ∨ 248 ≤ (l.getD 0 0).toNat) : Calls Try.prog 55 #[.slice (some ⟨b, off, none⟩) l.length cap] w fun e w' => e = .returned (stepV l) ∧ w' = w := by
  have h0 := hc 0 hne
  rw [Nat.add_zero] at h0
  have hlt := (l.getD 0 0).toNat_lt
  have hl2 : (0 : Int) < (l.length : Int) := by omega
  have HS := hid (stepV_bad (dec_none h1 h2))
  obtain ⟨x, hx⟩ : ∃ x, x = (l.getD 0 0).toNat := ⟨_, rfl⟩
  rw [← hx] at h0 h1 h2 hlt
  clear hc hx
  rcases h2 with h2 | h2
  · have hi : ¬ (x : Int) < 128 := by omega
    have hi2 : (x : Int) < 192 := by omega
    go_enter Try.func55, Try.ntmps55
    go_wp2
    go_ret3
    exact ⟨by rw [HS.out]; rfl, rfl⟩
  have hi : ¬ (x : Int) < 128 := by omega
  have hi2 : (248 : Int) ≤ x := by omega
  go_enter Try.func55, Try.ntmps55
  go_wp2
  go_ret3
  exact ⟨by rw [HS.out]; rfl, rfl⟩
set_option maxRecDepth 100000 in
set_option maxHeartbeats 4000000 in
include hne hc hbig in
theorem step_short (n m least : Nat) (h : Cls (l.getD 0 0).toNat n m least) (hl : l.length < n) : Calls Try.prog 55 #[.slice (some ⟨b, off, none⟩) l.length cap] w fun e w' => e = .returned (stepV l) ∧ w' = w := by
  have h0 := hc 0 hne
  rw [Nat.add_zero] at h0
  have hlt := (l.getD 0 0).toNat_lt
  have hl2 : (0 : Int) < (l.length : Int) := by omega
  have HS := hid (stepV_bad (dec_short h hl))
  obtain ⟨x, hx⟩ : ∃ x, x = (l.getD 0 0).toNat := ⟨_, rfl⟩
  rw [← hx] at h0 h hlt
  have hm5 := u8_m5 ⟨x, hlt⟩
  have hm4 := u8_m4 ⟨x, hlt⟩
  have hm3 := u8_m3 ⟨x, hlt⟩
  clear hc hx
  rcases h with ⟨a1, a2, rfl, rfl, rfl⟩ | ⟨a1, a2, rfl, rfl, rfl⟩ | ⟨a1, a2, rfl, rfl, rfl⟩
  all_goals
    have hi : ¬ (x : Int) < 128 := by omega
    have hi2 : (192 : Int) ≤ x := by omega
    have hi3 : (l.length : Int) < 4 := by omega
  · have hi4 : (x : Int) < 224 := by omega
    have hi5 : (l.length : Int) < 2 := by omega
    go_enter Try.func55, Try.ntmps55
    go_wp2
    go_ret3
    exact ⟨by rw [HS.out]; rfl, rfl⟩
  · have hi4 : (224 : Int) ≤ x := by omega
    have hi6 : (x : Int) < 240 := by omega
    have hi5 : (l.length : Int) < 3 := by omega
    go_enter Try.func55, Try.ntmps55
    go_wp2
    go_ret3
    exact ⟨by rw [HS.out]; rfl, rfl⟩
  have hi4 : (240 : Int) ≤ x := by omega
  have hi6 : (x : Int) < 248 := by omega
  go_enter Try.func55, Try.ntmps55
  go_wp2
  go_ret3
  exact ⟨by rw [HS.out]; rfl, rfl⟩
end
end Go.Proofs.Ytkdeedhjkjffpaa
namespace Go.Proofs.Ytkdeedhjkjffpaa
open Go.RowKit Go.Hub Go.Lib
section
variable (b off cap : Nat) (l : List UInt8) (w : World) (hne : 0 < l.length) (hbig : l.length ≤ maxLen)
  (hc : ∀ j, j < l.length → w.cell? ⟨b, off + j, none⟩ = some (.int .u8 ((l.getD j 0).toNat : Int)))
set_option maxRecDepth 100000 in
set_option maxHeartbeats 8000000 in
include hne hc hbig in
theorem step_2 (ha : 192 ≤ (l.getD 0 0).toNat) (hb : (l.getD 0 0).toNat < 224) (hl : 2 ≤ l.length) : Calls Try.prog 55 #[.slice (some ⟨b, off, none⟩) l.length cap] w fun e w' => e = .returned (stepV l) ∧ w' = w := by
  have hcl : Cls (l.getD 0 0).toNat 2 32 128 := by unfold Cls; omega
  have h0 := hc 0 hne
  rw [Nat.add_zero] at h0
  have HC := hid hc
  have HB := hid (fun k (h1 : 1 ≤ k) (h2 : k ≤ 2) => ac_bd hcl k h1 h2)
  have HK := hid hcl
  have hlt := (l.getD 0 0).toNat_lt
  have hl2 : (0 : Int) < (l.length : Int) := by omega
  have H1 := hid (ac_one l 32)
  obtain ⟨x, hx⟩ : ∃ x, x = (l.getD 0 0).toNat := ⟨_, rfl⟩
  rw [← hx] at h0 hlt H1 ha hb
  have hm := u8_m5 ⟨x, hlt⟩
  unfold maxLen at hbig
  clear hc hx hcl
  have hi : ¬ (x : Int) < 128 := by omega
  have hi2 : (192 : Int) ≤ x := by omega
  have hi4 : (x : Int) < 224 := by omega
  have hi5 : ¬ (l.length : Int) < 2 := by omega
  go_enter Try.func55, Try.ntmps55
  go_wp2
  clear hm
  go_loopg [8, 9] 1 (fun g r i wr => ∃ k : Nat, 1 ≤ k ∧ k + g = 2 ∧ i = .int .i64 k ∧ r = .int .i32 (ac l 32 k) ∧ (∀ j, 1 ≤ j → j < k → (l.getD j 0).toNat / 64 = 2) ∧ w = wr)
  case atStart => exact ⟨1, by omega, rfl, rfl, by rw [H1.out]; rfl, fun j h1 h2 => by omega, rfl⟩
  case round =>
    obtain ⟨k, hk1, hk2, rfl, rfl, hcont, rfl⟩ := hrel
    have HCT := hid hcont
    have hbd := HB.out k hk1 (by omega)
    obtain ⟨r, hr⟩ : ∃ r, r = ac l 32 k := ⟨_, rfl⟩
    rw [← hr] at hbd ⊢
    have HR := hid hr
    clear hcont hr
    by_cases hlt2 : k < 2
    · have hcell := HC.out k (by omega)
      have hk3 : (k : Int) < 2 := by omega
      have hk4 : (k : Int) < (l.length : Int) := by omega
      have hzl := (l.getD k 0).toNat_lt
      have hr3 := hbd.2 hlt2
      obtain ⟨z, hz⟩ : ∃ z, z = (l.getD k 0).toNat := ⟨_, rfl⟩
      rw [← hz] at hcell hzl
      have HZ := hid hz
      have hmh := u8_hi ⟨z, hzl⟩
      have hml := u8_m6 ⟨z, hzl⟩
      simp only [] at hmh hml
      have hor : bits .or .i32 ((r : Int) * 64) ((z % 64 : Nat) : Int) = (r : Int) * 64 + ((z % 64 : Nat) : Int) := i32_or 6 _ _ (by omega) (by omega) (by omega) (by omega) (by omega) (by omega)
      have HI := hid hk2
      clear hz hk2 hbd
      by_cases hz2 : z / 64 = 2
      · have hq : ((z / 64 * 64 : Nat) : Int) = 128 := by omega
        rw [hq] at hmh
        have HQ := hid hz2
        clear hz2 hq
        go_wp2
        go_roundg (gk - 1)
        case measure => have := HI.out; omega
        case rel =>
          refine ⟨k + 1, by omega, by have := HI.out; omega, by go_num, ?_, fun j h1 h2 => ?_, rfl⟩
          · rw [ac_succ l 32 k hk1, ← HR.out, ← HZ.out]
            congr 1
          rcases Nat.lt_or_ge j k with h | h
          · exact HCT.out j h1 h
          obtain rfl : j = k := by omega
          rw [← HZ.out]; exact HQ.out
      have hq : (((z / 64 * 64 : Nat) : Int) != 128) = true := by simp; omega
      have HS := hid (stepV_bad (dec_broken HK.out hk1 hlt2 (by rw [← HZ.out]; exact hz2)))
      clear hz2
      go_wp2
      go_ret3
      exact ⟨by rw [HS.out]; rfl, rfl⟩
    obtain rfl : k = 2 := by omega
    have HD := hid (dec_whole HK.out hl HCT.out)
    rw [← HR.out] at HD
    clear hlt2 hk2
    have hr9 := hbd.1
    clear hbd
    by_cases hg : 128 ≤ r ∧ r ≤ 1114111 ∧ ¬ (55296 ≤ r ∧ r < 57344)
    · have HS := hid (stepV_ok (HD.out.trans (if_pos hg)) (by omega))
      obtain ⟨g1, g2, g3⟩ := hg
      have i1 : ¬ (r : Int) < 128 := by omega
      have i2 : ¬ (1114111 : Int) < r := by omega
      by_cases g4 : r < 55296
      · have i3 : ¬ (55296 : Int) ≤ r := by omega
        clear g1 g2 g3 g4
        go_wp2
        go_ret3
        exact ⟨by rw [HS.out]; rfl, rfl⟩
      have i3 : (55296 : Int) ≤ r := by omega
      have i4 : ¬ (r : Int) < 57344 := by omega
      clear g1 g2 g3 g4
      go_wp2
      go_ret3
      exact ⟨by rw [HS.out]; rfl, rfl⟩
    have HS := hid (stepV_bad (HD.out.trans (if_neg hg)))
    by_cases g1 : r < 128
    · have i1 : (r : Int) < 128 := by omega
      clear g1 hg
      go_wp2
      all_goals (go_ret3; exact ⟨by rw [HS.out]; rfl, rfl⟩)
    have i1 : ¬ (r : Int) < 128 := by omega
    by_cases g2 : r ≤ 1114111
    · have i2 : ¬ (1114111 : Int) < r := by omega
      have i3 : (55296 : Int) ≤ r := by omega
      have i4 : (r : Int) < 57344 := by omega
      clear g1 hg g2
      go_wp2
      go_ret3
      exact ⟨by rw [HS.out]; rfl, rfl⟩
    have i2 : (1114111 : Int) < r := by omega
    clear g1 hg g2
    go_wp2
    all_goals (go_ret3; exact ⟨by rw [HS.out]; rfl, rfl⟩)
set_option maxRecDepth 100000 in
set_option maxHeartbeats 8000000 in
include hne hc hbig in
theorem step_3 (ha : 224 ≤ (l.getD 0 0).toNat) (hb : (l.getD 0 0).toNat < 240) (hl : 3 ≤ l.length) : Calls Try.prog 55 #[.slice (some ⟨b, off, none⟩) l.length cap] w fun e w' => e = .returned (stepV l) ∧ w' = w := by
  have hcl : Cls (l.getD 0 0).toNat 3 16 2048 := by unfold Cls; omega
  have h0 := hc 0 hne
  rw [Nat.add_zero] at h0
  have HC := hid hc
  have HB := hid (fun k (h1 : 1 ≤ k) (h2 : k ≤ 3) => ac_bd hcl k h1 h2)
  have HK := hid hcl
  have hlt := (l.getD 0 0).toNat_lt
  have hl2 : (0 : Int) < (l.length : Int) := by omega
  have H1 := hid (ac_one l 16)
  obtain ⟨x, hx⟩ : ∃ x, x = (l.getD 0 0).toNat := ⟨_, rfl⟩
  rw [← hx] at h0 hlt H1 ha hb
  have hm := u8_m4 ⟨x, hlt⟩
  unfold maxLen at hbig
  clear hc hx hcl
  have hi : ¬ (x : Int) < 128 := by omega
  have hi2 : (224 : Int) ≤ x := by omega
  have hi4 : (x : Int) < 240 := by omega
  have hi5 : ¬ (l.length : Int) < 3 := by omega
  go_enter Try.func55, Try.ntmps55
  go_wp2
  clear hm
  go_loopg [8, 9] 2 (fun g r i wr => ∃ k : Nat, 1 ≤ k ∧ k + g = 3 ∧ i = .int .i64 k ∧ r = .int .i32 (ac l 16 k) ∧ (∀ j, 1 ≤ j → j < k → (l.getD j 0).toNat / 64 = 2) ∧ w = wr)
  case atStart => exact ⟨1, by omega, rfl, rfl, by rw [H1.out]; rfl, fun j h1 h2 => by omega, rfl⟩
  case round =>
    obtain ⟨k, hk1, hk2, rfl, rfl, hcont, rfl⟩ := hrel
    have HCT := hid hcont
    have hbd := HB.out k hk1 (by omega)
    obtain ⟨r, hr⟩ : ∃ r, r = ac l 16 k := ⟨_, rfl⟩
    rw [← hr] at hbd ⊢
    have HR := hid hr
    clear hcont hr
    by_cases hlt2 : k < 3
    · have hcell := HC.out k (by omega)
      have hk3 : (k : Int) < 3 := by omega
      have hk4 : (k : Int) < (l.length : Int) := by omega
      have hzl := (l.getD k 0).toNat_lt
      have hr3 := hbd.2 hlt2
      obtain ⟨z, hz⟩ : ∃ z, z = (l.getD k 0).toNat := ⟨_, rfl⟩
      rw [← hz] at hcell hzl
      have HZ := hid hz
      have hmh := u8_hi ⟨z, hzl⟩
      have hml := u8_m6 ⟨z, hzl⟩
      simp only [] at hmh hml
      have hor : bits .or .i32 ((r : Int) * 64) ((z % 64 : Nat) : Int) = (r : Int) * 64 + ((z % 64 : Nat) : Int) := i32_or 6 _ _ (by omega) (by omega) (by omega) (by omega) (by omega) (by omega)
      have HI := hid hk2
      clear hz hk2 hbd
      by_cases hz2 : z / 64 = 2
      · have hq : ((z / 64 * 64 : Nat) : Int) = 128 := by omega
        rw [hq] at hmh
        have HQ := hid hz2
        clear hz2 hq
        go_wp2
        go_roundg (gk - 1)
        case measure => have := HI.out; omega
        case rel =>
          refine ⟨k + 1, by omega, by have := HI.out; omega, by go_num, ?_, fun j h1 h2 => ?_, rfl⟩
          · rw [ac_succ l 16 k hk1, ← HR.out, ← HZ.out]
            congr 1
          rcases Nat.lt_or_ge j k with h | h
          · exact HCT.out j h1 h
          obtain rfl : j = k := by omega
          rw [← HZ.out]; exact HQ.out
      have hq : (((z / 64 * 64 : Nat) : Int) != 128) = true := by simp; omega
      have HS := hid (stepV_bad (dec_broken HK.out hk1 hlt2 (by rw [← HZ.out]; exact hz2)))
      clear hz2
      go_wp2
      go_ret3
      exact ⟨by rw [HS.out]; rfl, rfl⟩
    obtain rfl : k = 3 := by omega
    have HD := hid (dec_whole HK.out hl HCT.out)
    rw [← HR.out] at HD
    clear hlt2 hk2
    have hr9 := hbd.1
    clear hbd
    by_cases hg : 2048 ≤ r ∧ r ≤ 1114111 ∧ ¬ (55296 ≤ r ∧ r < 57344)
    · have HS := hid (stepV_ok (HD.out.trans (if_pos hg)) (by omega))
      obtain ⟨g1, g2, g3⟩ := hg
      have i1 : ¬ (r : Int) < 2048 := by omega
      have i2 : ¬ (1114111 : Int) < r := by omega
      by_cases g4 : r < 55296
      · have i3 : ¬ (55296 : Int) ≤ r := by omega
        clear g1 g2 g3 g4
        go_wp2
        go_ret3
        exact ⟨by rw [HS.out]; rfl, rfl⟩
      have i3 : (55296 : Int) ≤ r := by omega
      have i4 : ¬ (r : Int) < 57344 := by omega
      clear g1 g2 g3 g4
      go_wp2
      go_ret3
      exact ⟨by rw [HS.out]; rfl, rfl⟩
    have HS := hid (stepV_bad (HD.out.trans (if_neg hg)))
    by_cases g1 : r < 2048
    · have i1 : (r : Int) < 2048 := by omega
      clear g1 hg
      go_wp2
      all_goals (go_ret3; exact ⟨by rw [HS.out]; rfl, rfl⟩)
    have i1 : ¬ (r : Int) < 2048 := by omega
    by_cases g2 : r ≤ 1114111
    · have i2 : ¬ (1114111 : Int) < r := by omega
      have i3 : (55296 : Int) ≤ r := by omega
      have i4 : (r : Int) < 57344 := by omega
      clear g1 hg g2
      go_wp2
      go_ret3
      exact ⟨by rw [HS.out]; rfl, rfl⟩
    have i2 : (1114111 : Int) < r := by omega
    clear g1 hg g2
    go_wp2
    all_goals (go_ret3; exact ⟨by rw [HS.out]; rfl, rfl⟩)
set_option maxRecDepth 100000 in
set_option maxHeartbeats 8000000 in
include hne hc hbig in
theorem step_4 (ha : 240 ≤ (l.getD 0 0).toNat) (hb : (l.getD 0 0).toNat < 248) (hl : 4 ≤ l.length) : Calls Try.prog 55 #[.slice (some ⟨b, off, none⟩) l.length cap] w fun e w' => e = .returned (stepV l) ∧ w' = w := by
  have hcl : Cls (l.getD 0 0).toNat 4 8 65536 := by unfold Cls; omega
  have h0 := hc 0 hne
  rw [Nat.add_zero] at h0
  have HC := hid hc
  have HB := hid (fun k (h1 : 1 ≤ k) (h2 : k ≤ 4) => ac_bd hcl k h1 h2)
  have HK := hid hcl
  have hlt := (l.getD 0 0).toNat_lt
  have hl2 : (0 : Int) < (l.length : Int) := by omega
  have H1 := hid (ac_one l 8)
  obtain ⟨x, hx⟩ : ∃ x, x = (l.getD 0 0).toNat := ⟨_, rfl⟩
  rw [← hx] at h0 hlt H1 ha hb
  have hm := u8_m3 ⟨x, hlt⟩
  unfold maxLen at hbig
  clear hc hx hcl
  have hi : ¬ (x : Int) < 128 := by omega
  have hi2 : (240 : Int) ≤ x := by omega
  have hi4 : (x : Int) < 248 := by omega
  have hi5 : ¬ (l.length : Int) < 4 := by omega
  go_enter Try.func55, Try.ntmps55
  go_wp2
  clear hm
  go_loopg [8, 9] 3 (fun g r i wr => ∃ k : Nat, 1 ≤ k ∧ k + g = 4 ∧ i = .int .i64 k ∧ r = .int .i32 (ac l 8 k) ∧ (∀ j, 1 ≤ j → j < k → (l.getD j 0).toNat / 64 = 2) ∧ w = wr)
  case atStart => exact ⟨1, by omega, rfl, rfl, by rw [H1.out]; rfl, fun j h1 h2 => by omega, rfl⟩
  case round =>
    obtain ⟨k, hk1, hk2, rfl, rfl, hcont, rfl⟩ := hrel
    have HCT := hid hcont
    have hbd := HB.out k hk1 (by omega)
    obtain ⟨r, hr⟩ : ∃ r, r = ac l 8 k := ⟨_, rfl⟩
    rw [← hr] at hbd ⊢
    have HR := hid hr
    clear hcont hr
    by_cases hlt2 : k < 4
    · have hcell := HC.out k (by omega)
      have hk3 : (k : Int) < 4 := by omega
      have hk4 : (k : Int) < (l.length : Int) := by omega
      have hzl := (l.getD k 0).toNat_lt
      have hr3 := hbd.2 hlt2
      obtain ⟨z, hz⟩ : ∃ z, z = (l.getD k 0).toNat := ⟨_, rfl⟩
      rw [← hz] at hcell hzl
      have HZ := hid hz
      have hmh := u8_hi ⟨z, hzl⟩
      have hml := u8_m6 ⟨z, hzl⟩
      simp only [] at hmh hml
      have hor : bits .or .i32 ((r : Int) * 64) ((z % 64 : Nat) : Int) = (r : Int) * 64 + ((z % 64 : Nat) : Int) := i32_or 6 _ _ (by omega) (by omega) (by omega) (by omega) (by omega) (by omega)
      have HI := hid hk2
      clear hz hk2 hbd
      by_cases hz2 : z / 64 = 2
      · have hq : ((z / 64 * 64 : Nat) : Int) = 128 := by omega
        rw [hq] at hmh
        have HQ := hid hz2
        clear hz2 hq
        go_wp2
        go_roundg (gk - 1)
        case measure => have := HI.out; omega
        case rel =>
          refine ⟨k + 1, by omega, by have := HI.out; omega, by go_num, ?_, fun j h1 h2 => ?_, rfl⟩
          · rw [ac_succ l 8 k hk1, ← HR.out, ← HZ.out]
            congr 1
          rcases Nat.lt_or_ge j k with h | h
          · exact HCT.out j h1 h
          obtain rfl : j = k := by omega
          rw [← HZ.out]; exact HQ.out
      have hq : (((z / 64 * 64 : Nat) : Int) != 128) = true := by simp; omega
      have HS := hid (stepV_bad (dec_broken HK.out hk1 hlt2 (by rw [← HZ.out]; exact hz2)))
      clear hz2
      go_wp2
      go_ret3
      exact ⟨by rw [HS.out]; rfl, rfl⟩
    obtain rfl : k = 4 := by omega
    have HD := hid (dec_whole HK.out hl HCT.out)
    rw [← HR.out] at HD
    clear hlt2 hk2
    have hr9 := hbd.1
    clear hbd
    by_cases hg : 65536 ≤ r ∧ r ≤ 1114111 ∧ ¬ (55296 ≤ r ∧ r < 57344)
    · have HS := hid (stepV_ok (HD.out.trans (if_pos hg)) (by omega))
      obtain ⟨g1, g2, g3⟩ := hg
      have i1 : ¬ (r : Int) < 65536 := by omega
      have i2 : ¬ (1114111 : Int) < r := by omega
      by_cases g4 : r < 55296
      · have i3 : ¬ (55296 : Int) ≤ r := by omega
        clear g1 g2 g3 g4
        go_wp2
        go_ret3
        exact ⟨by rw [HS.out]; rfl, rfl⟩
      have i3 : (55296 : Int) ≤ r := by omega
      have i4 : ¬ (r : Int) < 57344 := by omega
      clear g1 g2 g3 g4
      go_wp2
      go_ret3
      exact ⟨by rw [HS.out]; rfl, rfl⟩
    have HS := hid (stepV_bad (HD.out.trans (if_neg hg)))
    by_cases g1 : r < 65536
    · have i1 : (r : Int) < 65536 := by omega
      clear g1 hg
      go_wp2
      all_goals (go_ret3; exact ⟨by rw [HS.out]; rfl, rfl⟩)
    have i1 : ¬ (r : Int) < 65536 := by omega
    by_cases g2 : r ≤ 1114111
    · have i2 : ¬ (1114111 : Int) < r := by omega
      have i3 : (55296 : Int) ≤ r := by omega
      have i4 : (r : Int) < 57344 := by omega
      clear g1 hg g2
      go_wp2
      go_ret3
      exact ⟨by rw [HS.out]; rfl, rfl⟩
    have i2 : (1114111 : Int) < r := by omega
    clear g1 hg g2
    go_wp2
    all_goals (go_ret3; exact ⟨by rw [HS.out]; rfl, rfl⟩)
include hne hc hbig in
theorem step_any : Calls Try.prog 55 #[.slice (some ⟨b, off, none⟩) l.length cap] w fun e w' => e = .returned (stepV l) ∧ w' = w := by
  by_cases h1 : (l.getD 0 0).toNat < 128
  · exact step_ascii b off cap l w hne hbig hc h1
  by_cases h2 : (l.getD 0 0).toNat < 192
  · exact step_none b off cap l w hne hbig hc (by omega) (.inl h2)
  by_cases h3 : 248 ≤ (l.getD 0 0).toNat
  · exact step_none b off cap l w hne hbig hc (by omega) (.inr h3)
  by_cases h4 : (l.getD 0 0).toNat < 224
  · by_cases hl : l.length < 2
    · exact step_short b off cap l w hne hbig hc 2 32 128 (by unfold Cls; omega) hl
    exact step_2 b off cap l w hne hbig hc (by omega) h4 (by omega)
  by_cases h5 : (l.getD 0 0).toNat < 240
  · by_cases hl : l.length < 3
    · exact step_short b off cap l w hne hbig hc 3 16 2048 (by unfold Cls; omega) hl
    exact step_3 b off cap l w hne hbig hc (by omega) h5 (by omega)
  by_cases hl : l.length < 4
  · exact step_short b off cap l w hne hbig hc 4 8 65536 (by unfold Cls; omega) hl
  exact step_4 b off cap l w hne hbig hc (by omega) (by omega) (by omega)
end
end Go.Proofs.Ytkdeedhjkjffpaa
namespace Go.Proofs.Ytkdeedhjkjffpaa
open Go.RowKit Go.Hub Go.Lib
theorem Bs_cells {E : List TypeId} {B : Nat} {w : World} {A : Option Addr} {n : Nat} {l : List UInt8} (h : Bs E B w A n l) (hn : 0 < n) : ∃ b off, A = some ⟨b, off, none⟩ ∧ ∀ j, j < n → w.cell? ⟨b, off + j, none⟩ = some (.int .u8 ((l.getD j 0).toNat : Int)) := by
  obtain ⟨b, off, e, _, _, hc⟩ := h.2 hn
  exact ⟨b, off, e, fun j hj => hc j _ (getD_some (by rw [h.1]; exact hj))⟩
theorem drop_cells {b off : Nat} {w : World} {l : List UInt8} (hc : ∀ j, j < l.length → w.cell? ⟨b, off + j, none⟩ = some (.int .u8 ((l.getD j 0).toNat : Int))) (i : Nat) :
    ∀ j, j < (l.drop i).length → w.cell? ⟨b, off + i + j, none⟩ = some (.int .u8 (((l.drop i).getD j 0).toNat : Int)) := fun j hj => by
  rw [getD_dropU, Nat.add_assoc]
  exact hc _ (by rw [List.length_drop] at hj; omega)
theorem chkf_at (l : List UInt8) (f i : Nat) (hi : i < l.length) (hf : l.length - i ≤ f) :
    ∃ f', f = f' + 1 ∧ chkf f i (l.drop i) = if badL (l.drop i) || (decodeL (l.drop i)).1 == 0 then (i : Int) else chkf f' (i + (decodeL (l.drop i)).2) (l.drop (i + (decodeL (l.drop i)).2)) := by
  obtain ⟨f', rfl⟩ : ∃ f', f = f' + 1 := ⟨f - 1, by omega⟩
  refine ⟨f', rfl, ?_⟩
  have hne : l.drop i ≠ [] := by
    intro h
    have := congrArg List.length h
    simp at this
    omega
  simp only [chkf]
  rw [if_neg hne, List.drop_drop]
set_option maxRecDepth 100000 in
set_option maxHeartbeats 4000000 in
theorem chkR_any (E : List TypeId) (B : Nat) (A : Option Addr) (cap : Nat) (l : List UInt8) (w : World) (h : Bs E B w A l.length l) (hl : l.length ≤ cap) (hcap : cap ≤ maxLen) :
    Calls Try.prog 46 #[.slice A l.length cap] w fun e w' => e = .returned (.int .i64 (chk l)) ∧ w' = w := by
  unfold maxLen at hcap
  go_enter Try.func46, Try.ntmps46
  go_wp2
  go_loopg [3] l.length (fun g v wr => ∃ i f : Nat, i + g = l.length ∧ v = .int .i64 i ∧ l.length - i ≤ f ∧ chkf f i (l.drop i) = chk l ∧ w = wr)
  case atStart => exact ⟨0, l.length, by omega, rfl, by omega, by simp [chk], rfl⟩
  case round =>
    obtain ⟨i, f, hi, rfl, hf, hk, rfl⟩ := hrel
    have HK := hid hk
    clear hk
    by_cases hlt : i < l.length
    · obtain ⟨b, off, rfl, hcell⟩ := Bs_cells h (by omega)
      have HC := hid hcell
      obtain ⟨f', rfl, hstep⟩ := chkf_at l f i hlt hf
      have HS := hid hstep
      have HI := hid hi
      have HF := hid hf
      have hdl : (l.drop i).length = l.length - i := List.length_drop
      have hw := decodeL_width (l.drop i)
      have hle := decodeL_le (l.drop i) (by intro h; have := congrArg List.length h; simp at this; omega)
      have hi2 : (i : Int) < (l.length : Int) := by omega
      have hi3 : (i : Int) ≤ (cap : Int) := by omega
      have hstp := step_any b (off + i) (cap - i) (l.drop i) w (by omega) (by unfold maxLen; omega) (drop_cells hcell i)
      rw [hdl] at hstp hle
      clear hcell hstep hi hf hdl h
      have hci : ¬ cap = i := by omega
      go_wp2_with fail
      refine hstp.mono ?_
      rintro e w1 ⟨rfl, rfl⟩
      obtain ⟨r, hr⟩ : ∃ r, r = decodeL (l.drop i) := ⟨_, rfl⟩
      unfold stepV
      rw [← hr] at hw hle ⊢
      have HR := hid hr
      clear hr hstp hlt
      cases hb : badL (l.drop i)
      · by_cases hz : r.1 = 0
        · have hz1 : ((r.1 : Int) == 0) = true := by simp; omega
          have HE := hid (show chk l = (i : Int) by rw [← HK.out, HS.out, ← HR.out, hz]; simp)
          clear hz hb
          go_wp2
          go_ret
          exact ⟨by rw [HE.out]; rfl, rfl⟩
        have hz1 : ((r.1 : Int) == 0) = false := by simp; omega
        have HE := hid (show chkf f' (i + r.2) (l.drop (i + r.2)) = chk l by
          rw [← HK.out, HS.out, ← HR.out, hb]
          simp [hz])
        clear hz hb
        go_wp2
        go_roundg (gk - r.2)
        case measure => have := HI.out; omega
        case rel => exact ⟨i + r.2, f', by have := HI.out; omega, by go_num, by have := HF.out; omega, HE.out, rfl⟩
      have HE := hid (show chk l = (i : Int) by rw [← HK.out, HS.out, hb]; simp)
      clear hb
      go_wp2
      go_ret
      exact ⟨by rw [HE.out]; rfl, rfl⟩
    have hi2 : ¬ (i : Int) < (l.length : Int) := by omega
    have HE := hid (show chk l = -1 by
      rw [← HK.out, List.drop_eq_nil_of_le (by omega), chkf_nil])
    clear hf hlt hi
    go_wp2
    go_ret
    exact ⟨by rw [HE.out]; rfl, rfl⟩
end Go.Proofs.Ytkdeedhjkjffpaa
namespace Go.Hub
open Go.RowKit Go.Lib
theorem bs_conv (E : List TypeId) (B : Nat) (w : World) (s : ByteArray) (e : TypeId) (he : e ∈ E) (cap : Nat) (fr : Nat × Nat) :
    Bs E B (w.drew.alloc (.cells (bytesRow s cap) e fr)) (some ⟨w.heap.size, 0, none⟩) s.data.toList.length s.data.toList := by
  refine ⟨rfl, fun _ => ⟨w.heap.size, 0, rfl, by simp, .inr ⟨_, e, fr, heap_alloc_new w.drew _, he⟩, fun j x hx => ?_⟩⟩
  rw [Nat.zero_add]
  have hj : j < s.data.size := by
    have := (List.getElem?_eq_some_iff.1 hx).1
    simpa using this
  refine (World.cell?_alloc_mark w.drew _ _ _ _).trans ?_
  rw [bytesRow_at s cap j hj]
  have : x = s.data[j] := by
    have := (List.getElem?_eq_some_iff.1 hx).2
    simp at this
    exact this.symm
  rw [this]
  rfl
end Go.Hub
namespace Go.Proofs.Ytkdeedhjkjffpaa
open Go.RowKit Go.Hub Go.Lib Go.Vl
theorem wsz3_wb : (Try.prog.info? 3).map (·.size) = some 1 := by kernel_rfl
theorem wsz4_wb : (Try.prog.info? 4).map (·.size) = some 1 := by kernel_rfl
theorem wsz9_wb : (Try.prog.info? 9).map (·.size) = some 1 := by kernel_rfl
theorem wsz28_wb : (Try.prog.info? 28).map (·.size) = some 1 := by kernel_rfl
theorem wsz30_wb : (Try.prog.info? 30).map (·.size) = some 4 := by kernel_rfl
theorem wsz31_wb : (Try.prog.info? 31).map (·.size) = some 1 := by kernel_rfl
theorem wsz32_wb : (Try.prog.info? 32).map (·.size) = some 1 := by kernel_rfl
theorem wsz46_wb : (Try.prog.info? 46).map (·.size) = some 2 := by kernel_rfl
theorem willB_refl (p : Pk) : willB p p = true := by simp [willB]
theorem toList_len (s : ByteArray) : s.toList.length = s.size := by rw [ByteArray.toList_eq]; rfl
theorem tx_t {s : ByteArray} (h2 : s.size ≤ 65535) : txB s = decide (chk s.toList < 0) := by simp [txB, h2]
theorem tx_f {s : ByteArray} (h : ¬ s.size ≤ 65535) : txB s = false := by simp [txB, h]
section
variable {P : Program} {ops : Array Oper} {rest : List Oper} {a : Act} {w : World} {Q : Exit → Act → World → Prop} {n d : Nat} {l : FL} {ty : TypeId} {ps : String} {af : Array Edge} {gd : Option (Nat × Bool)} {x : Operand} {src dst u8t : TypeId}
theorem L.convSB (f : Fr n a l) (hw : Region.wanted ⟨some d, .convert src dst x, ty, ps, af, gd⟩ (yielded ops a.tmps) = true) (hn : d < n) (hs : P.underlying src = some .string) (hd : P.underlying dst = some (.slice 5)) (he : P.underlying 5 = some (.int .u8)) {s : ByteArray} (hx : evl l x = some (.string s))
    (hm : s.size ≤ 1000000) (hK : ∀ a' w' c, Fr n a' ((d, .slice (some ⟨w.heap.size, 0, none⟩) s.toList.length c) :: l) → (s.toList.length ≤ c ∧ c ≤ maxLen) → Bs [5] w'.heap.size w' (some ⟨w.heap.size, 0, none⟩) s.toList.length s.toList → Kept [] w w' → wpList P ops Q rest a' w') : wpList P ops Q (⟨some d, .convert src dst x, ty, ps, af, gd⟩ :: rest) a w := by
  have h := run_bytes_of_string (P := P) w src dst 5 s hs hd he
  refine L.val (v := .slice (some ⟨w.heap.size, 0, none⟩) s.size (grownCap w s.size 0 5)) (w' := w.drew.alloc (.cells (bytesRow s (grownCap w s.size 0 5)) 5 ((bytesRow s (grownCap w s.size 0 5)).size, (bytesRow s (grownCap w s.size 0 5)).size + 1))) f hw rfl hn (by simp only [execOp, f.ev hx, Sem.run_bind, h, Result.andThen, Sem.run_pure]) fun a' f' => hK a' _ (grownCap w s.size 0 5) (by rw [toList_len]; exact f') ?_ ?_ ?_
  · rw [toList_len]
    exact ⟨grownCap_ge _ _ _ _, grownCap_le_maxLen _ _ _ _ (by unfold maxLen; omega)⟩
  · rw [ByteArray.toList_eq]
    exact bs_conv [5] _ w s 5 (by simp) _ _
  exact ((Kept.refl [] w).drewN 1).alloc _
end
theorem in_take {α : Type} {l : List α} {k : Nat} {d : α} {p : α → Prop} (h : ∀ x ∈ l.take k, p x) (hd : l[k]? = some d) (hp : p d) : ∀ x ∈ l.take (k + 1), p x := fun x hx => by
  rw [List.take_add_one, hd] at hx
  rcases List.mem_append.1 hx with hx | hx
  · exact h x hx
  simp at hx; subst hx; exact hp
theorem all_take {α : Type} {l : List α} {k : Nat} {p : α → Prop} (h : ∀ x ∈ l.take k, p x) (hk : l.length ≤ k) : ∀ x ∈ l, p x := by rwa [List.take_of_length_le hk] at h
theorem codB_t {l : List Int} (h : ∀ x ∈ l, (inB x 0 2 || decide (x = 128)) = true) : codB l = true := List.all_eq_true.2 h
theorem codB_f {l : List Int} {d : Int} (hd : d ∈ l) (h : (inB d 0 2 || decide (d = 128)) = false) : codB l = false := List.all_eq_false.2 ⟨d, hd, by simp [h]⟩
theorem flg_bd (b : Bool) (n : Int) (h : 0 ≤ n) : 0 ≤ flg b n ∧ flg b n ≤ n := by cases b <;> simp [flg] <;> omega
def BarePost (p : Pk) (w : World) (e : Ending) (w' : World) : Prop := Kept [] w w' ∧ ∃ t, e = .returned (.agg ((bareP p).cells t)) ∧ (bareP p).In w' t
set_option maxRecDepth 100000 in
set_option maxHeartbeats 2000000 in
theorem sameR_any (p q : Pk) (s t : Ad) (w : World) (IP : p.In w s) (IQ : q.In w t) (hl : p.subs.length ≤ 1000000) (hl2 : p.codes.length ≤ 1000000) : Calls Try.prog 22 #[.agg (p.cells s), .agg (q.cells t)] w (fun e w' => Kept [] w w' ∧ e = .returned (.bool (samePk p q))) := by
 have HK : Kept [] w w := Kept.refl [] w
 refine C.enter Try.func22 rfl Try.ntmps22 rfl ?_
 intro a0 f0
 have f1 : Fr 195 a0 [(0, .agg (p.cells s)), (1, .agg (q.cells t))] := f0
 refine C.sk fun K0 hK0 => ?_
 refine L.box f1 wantedN (by decide) rfl rfl fun a2 w1 g0 N0 f2 => ?_
 have Bg0 := N0.blk
 have kg0 := N0.kept
 have log0 := N0.lo
 have ltg0 := Bg0.lt
 have szw1 := kg0.size
 have frg0 : w.heap.size ≤ g0 := Nat.le_trans HK.size log0
 replace HK := HK.z kg0
 clear f0 N0 kg0
 refine L.box f2 wantedN (by decide) rfl rfl fun a3 w2 g1 N1 f3 => ?_
 have Bg1 := N1.blk
 have kg1 := N1.kept
 have log1 := N1.lo
 have ltg1 := Bg1.lt
 have szw2 := kg1.size
 have frg1 : w.heap.size ≤ g1 := Nat.le_trans HK.size log1
 have neg0_g1 : g0 ≠ g1 := by have := Bg0.lt; omega
 replace HK := HK.z kg1
 replace Bg0 := Bg0.z kg1
 clear f1 a0 N1 kg1
 refine L.ag f3 fun a4 f4 => ?_
 refine wpList_nil (hK0 _ _ ?_)
 have f5 := f4.sub (sc 2 (sc 3 sn))
 obtain ⟨J3, hJ3⟩ : ∃ J : Act → World → Prop, J = fun a W => Kept [] w W ∧ Blk W g0 34 (p.cells s) ∧ Blk W g1 34 (q.cells t) ∧ (p.subs.length = q.subs.length ∧ p.codes.length = q.codes.length ∧ p.pay = q.pay ∧ p.pass = q.pass ∧ willB p q = true) ∧ Fr 195 a [(2, .pointer (some ⟨g0, 0, none⟩)), (3, .pointer (some ⟨g1, 0, none⟩))] := ⟨_, rfl⟩
 clear f2 a2 f3 a3 f4
 refine C.cut J3 ?_ ?_
 ·skip
  refine C.sk fun K1 hK1 => ?_
  refine L.fa 22 f5 U34 rfl wsz31_wb fun a6 f6 => ?_
  refine L.ld f6 U31 Bg0 fun a7 f7 => ?_
  refine L.va f7 (E.lenL f7 U31 rfl) fun a8 f8 => ?_
  refine L.fa 22 f8 U34 rfl wsz31_wb fun a9 f9 => ?_
  refine L.ld f9 U31 Bg1 fun a10 f10 => ?_
  refine L.va f10 (E.lenL f10 U31 rfl) fun a11 f11 => ?_
  refine L.va f11 (E.neq f11 rfl rfl) fun a12 f12 => ?_
  clear f5 a4 f6 a6 f7 a7 f8 a8 f9 a9 f10 a10 f11 a11
  refine L.mv f12 fun a13 f13 => ?_
  clear f12 a12
  refine f13.splitN 14 rfl (fun h0 f14 => ?_) (fun h0 f14 => ?_)
  ·refine L.run f14 (rest' := []) (by kernel_rfl) fun a15 f15 => ?_
   clear f13
   refine wpList_nil (hK1 _ _ ?_)
   have f16 := f15.sub (scR f15 2 (scR f15 3 (sv 48 (.bool true) sn)))
   refine C.condT f16 rfl ?_
   refine C.sk fun K2 hK2 => ?_
   refine L.ag f16 fun a17 f17 => ?_
   have f18 := f17.sub (sc 4 sn)
   refine wpList_nil (hK2 _ _ (wp_ret ?_)); (try simp only [xt, xb]); refine C.ret f18 rfl rfl ?_
   refine ⟨HK, ?_⟩
   rw [samePk_f (p := p) (q := q) (fun e => by subst e; (apply absurd rfl; assumption))]
  refine L.fa 23 f14 U34 rfl wsz32_wb (hw := (f14.yes rfl rfl)) fun a15 f15 => ?_
  refine L.ld f15 U32 Bg0 (hw := (f15.yes rfl rfl)) fun a16 f16 => ?_
  refine L.va f16 (E.lenL f16 U32 rfl) (hw := (f16.yes rfl rfl)) fun a17 f17 => ?_
  refine L.fa 23 f17 U34 rfl wsz32_wb (hw := (f17.yes rfl rfl)) fun a18 f18 => ?_
  refine L.ld f18 U32 Bg1 (hw := (f18.yes rfl rfl)) fun a19 f19 => ?_
  refine L.va f19 (E.lenL f19 U32 rfl) (hw := (f19.yes rfl rfl)) fun a20 f20 => ?_
  refine L.va f20 (E.neq f20 rfl rfl) (hw := (f20.yes rfl rfl)) fun a21 f21 => ?_
  clear f13 f14 a13 f15 a15 f16 a16 f17 a17 f18 a18 f19 a19 f20 a20
  refine L.va f21 (E.pickF f21 rfl rfl) fun a22 f22 => ?_
  refine L.mv f22 fun a23 f23 => ?_
  clear f21 a21 f22 a22
  refine f23.splitN 23 rfl (fun h1 f24 => ?_) (fun h1 f24 => ?_)
  ·refine L.run f24 (rest' := []) (by kernel_rfl) fun a25 f25 => ?_
   clear f23
   refine wpList_nil (hK1 _ _ ?_)
   have f26 := f25.sub (scR f25 2 (scR f25 3 (sv 48 (.bool true) sn)))
   refine C.condT f26 rfl ?_
   refine C.sk fun K3 hK3 => ?_
   refine L.ag f26 fun a27 f27 => ?_
   have f28 := f27.sub (sc 4 sn)
   refine wpList_nil (hK3 _ _ (wp_ret ?_)); (try simp only [xt, xb]); refine C.ret f28 rfl rfl ?_
   refine ⟨HK, ?_⟩
   rw [samePk_f (p := p) (q := q) (fun e => by subst e; (apply absurd rfl; assumption))]
  refine L.fa 6 f24 U34 rfl wsz28_wb (hw := (f24.yes rfl rfl)) fun a25 f25 => ?_
  refine L.ld f25 U28 Bg0 (hw := (f25.yes rfl rfl)) fun a26 f26 => ?_
  refine L.va f26 (E.toStr f26 rfl U28 U5 U9 (IP.pay.kept HK)) (hw := (f26.yes rfl rfl)) fun a27 f27 => ?_
  refine L.fa 6 f27 U34 rfl wsz28_wb (hw := (f27.yes rfl rfl)) fun a28 f28 => ?_
  refine L.ld f28 U28 Bg1 (hw := (f28.yes rfl rfl)) fun a29 f29 => ?_
  refine L.va f29 (E.toStr f29 rfl U28 U5 U9 (IQ.pay.kept HK)) (hw := (f29.yes rfl rfl)) fun a30 f30 => ?_
  refine L.va f30 (E.neqS f30 rfl rfl) (hw := (f30.yes rfl rfl)) fun a31 f31 => ?_
  clear f23 f24 a23 f25 a25 f26 a26 f27 a27 f28 a28 f29 a29 f30 a30
  refine L.va f31 (E.pickF f31 rfl rfl) fun a32 f32 => ?_
  refine L.mv f32 fun a33 f33 => ?_
  clear f31 a31 f32 a32
  refine f33.splitN 32 rfl (fun h2 f34 => ?_) (fun h2 f34 => ?_)
  ·refine L.run f34 (rest' := []) (by kernel_rfl) fun a35 f35 => ?_
   clear f33
   refine wpList_nil (hK1 _ _ ?_)
   have f36 := f35.sub (scR f35 2 (scR f35 3 (sv 48 (.bool true) sn)))
   refine C.condT f36 rfl ?_
   refine C.sk fun K4 hK4 => ?_
   refine L.ag f36 fun a37 f37 => ?_
   have f38 := f37.sub (sc 4 sn)
   refine wpList_nil (hK4 _ _ (wp_ret ?_)); (try simp only [xt, xb]); refine C.ret f38 rfl rfl ?_
   refine ⟨HK, ?_⟩
   rw [samePk_f (p := p) (q := q) (fun e => by subst e; (apply absurd rfl; assumption))]
  have hpay := bytes_eq.1 h2
  refine L.fa 19 f34 U34 rfl wsz28_wb (hw := (f34.yes rfl rfl)) fun a35 f35 => ?_
  refine L.ld f35 U28 Bg0 (hw := (f35.yes rfl rfl)) fun a36 f36 => ?_
  refine L.va f36 (E.toStr f36 rfl U28 U5 U9 (IP.pass.kept HK)) (hw := (f36.yes rfl rfl)) fun a37 f37 => ?_
  refine L.fa 19 f37 U34 rfl wsz28_wb (hw := (f37.yes rfl rfl)) fun a38 f38 => ?_
  refine L.ld f38 U28 Bg1 (hw := (f38.yes rfl rfl)) fun a39 f39 => ?_
  refine L.va f39 (E.toStr f39 rfl U28 U5 U9 (IQ.pass.kept HK)) (hw := (f39.yes rfl rfl)) fun a40 f40 => ?_
  refine L.va f40 (E.neqS f40 rfl rfl) (hw := (f40.yes rfl rfl)) fun a41 f41 => ?_
  clear f33 f34 a33 f35 a35 f36 a36 f37 a37 f38 a38 f39 a39 f40 a40
  refine L.va f41 (E.pickF f41 rfl rfl) fun a42 f42 => ?_
  refine L.mv f42 fun a43 f43 => ?_
  clear f41 a41 f42 a42
  refine f43.splitN 41 rfl (fun h3 f44 => ?_) (fun h3 f44 => ?_)
  ·refine L.run f44 (rest' := []) (by kernel_rfl) fun a45 f45 => ?_
   clear f43
   refine wpList_nil (hK1 _ _ ?_)
   have f46 := f45.sub (scR f45 2 (scR f45 3 (sv 48 (.bool true) sn)))
   refine C.condT f46 rfl ?_
   refine C.sk fun K5 hK5 => ?_
   refine L.ag f46 fun a47 f47 => ?_
   have f48 := f47.sub (sc 4 sn)
   refine wpList_nil (hK5 _ _ (wp_ret ?_)); (try simp only [xt, xb]); refine C.ret f48 rfl rfl ?_
   refine ⟨HK, ?_⟩
   rw [samePk_f (p := p) (q := q) (fun e => by subst e; (apply absurd rfl; assumption))]
  have hpass := bytes_eq.1 h3
  refine L.fa 12 f44 U34 rfl wsz30_wb (hw := (f44.yes rfl rfl)) fun a45 f45 => ?_
  refine L.va f45 (E.loadR f45 U30 rfl wsz30_wb rfl (will_row Bg0) rfl) (hw := (f45.yes rfl rfl)) fun a46 f46 => ?_
  refine L.fa 12 f46 U34 rfl wsz30_wb (hw := (f46.yes rfl rfl)) fun a47 f47 => ?_
  refine L.va f47 (E.loadR f47 U30 rfl wsz30_wb rfl (will_row Bg1) rfl) (hw := (f47.yes rfl rfl)) fun a48 f48 => ?_
  refine L.cl f48 (run_call Try.call45 (args2 f48 rfl rfl)) (willsR_any p q s t _ (IP.kept HK) (IQ.kept HK)) ?_ (hw := (f48.yes rfl rfl))
  clear f43 f44 a43 f45 a45 f46 a46 f47 a47
  rintro e w3 ⟨kc3, rfl⟩
  refine ⟨_, rfl, fun a49 f49 => ?_⟩
  have szw3 := kc3.size
  replace HK := HK.z kc3
  replace Bg0 := Bg0.z kc3
  replace Bg1 := Bg1.z kc3
  clear f48 a48 kc3
  refine L.va f49 (E.not f49 rfl) (hw := (f49.yes rfl rfl)) fun a50 f50 => ?_
  refine L.va f50 (E.pickF f50 rfl rfl) fun a51 f51 => ?_
  refine wpList_nil (hK1 _ _ ?_)
  have f52 := f51.sub (sc 2 (sc 3 (sc 48 sn)))
  clear f49 a49 f50 a50 f51
  refine f52.splitNB 48 rfl (fun h4 f53 => ?_) (fun h4 f53 => ?_)
  ·refine C.condT f53 rfl ?_
   refine C.sk fun K6 hK6 => ?_
   refine L.ag f53 fun a54 f54 => ?_
   have f55 := f54.sub (sc 4 sn)
   refine wpList_nil (hK6 _ _ (wp_ret ?_)); (try simp only [xt, xb]); refine C.ret f55 rfl rfl ?_
   refine ⟨HK, ?_⟩
   rw [samePk_f (p := p) (q := q) (fun e => by subst e; (rw [willB_refl] at *; contradiction))]
  refine C.condF f53 rfl ?_
  exact wp_skip (jn J3 (by rw [hJ3]; exact ⟨HK, Bg0, Bg1, ⟨by omega, by omega, hpay, hpass, by assumption⟩, f53.sub (sx (sx sn))⟩))
 intro a6 w3 hj
 rw [hJ3] at hj
 clear hJ3 J3
 obtain ⟨HK, Bg0, Bg1, ⟨hls, hlc, hpay, hpass, hwl⟩, f6⟩ := hj
 try clear f5
 obtain ⟨J8, hJ8⟩ : ∃ J : Act → World → Prop, J = fun a W => Kept [] w W ∧ Blk W g0 34 (p.cells s) ∧ Blk W g1 34 (q.cells t) ∧ p.subs = q.subs ∧ Fr 195 a [(2, .pointer (some ⟨g0, 0, none⟩)), (3, .pointer (some ⟨g1, 0, none⟩))] := ⟨_, rfl⟩
 refine C.cut J8 ?_ ?_
 ·skip
  refine C.sk fun K7 hK7 => ?_
  refine L.ag f6 fun a7 f7 => ?_
  refine wpList_nil (hK7 _ _ ?_)
  have f8 := f7.sub (sc 2 (sc 3 (sc 5 sn)))
  refine wp_block ?_
  clear f6 a6 f7
  refine C.loop (fun gk a W => ∃ k : Nat, k + gk = p.subs.length ∧ Kept [] w W ∧ Blk W g0 34 (p.cells s) ∧ Blk W g1 34 (q.cells t) ∧ p.subs.take k = q.subs.take k ∧ Fr 195 a [(2, .pointer (some ⟨g0, 0, none⟩)), (3, .pointer (some ⟨g1, 0, none⟩)), (5, .int .i64 k)]) (p.subs.length) ?_ ?_
  ·exact ⟨0, by omega, HK, Bg0, Bg1, rfl, f8.sub (sx (sx (sx sn)))⟩
  intro gk9 a9 w4 hI KL8 hKL8
  obtain ⟨k, hk, HK, Bg0, Bg1, hq0, f9⟩ := hI
  try clear f8
  refine wp_seq_k fun K9 hK9 => ?_
  refine C.sk fun K10 hK10 => ?_
  refine L.mv f9 fun a10 f10 => ?_
  refine L.fa 22 f10 U34 rfl wsz31_wb fun a11 f11 => ?_
  refine L.ld f11 U31 Bg0 fun a12 f12 => ?_
  refine L.va f12 (E.lenL f12 U31 rfl) fun a13 f13 => ?_
  refine L.va f13 (E.lss f13 rfl rfl) fun a14 f14 => ?_
  refine wpList_nil (hK10 _ _ ?_)
  have f15 := f14.sub (sc 2 (sc 3 (sc 5 (sc 53 sn))))
  clear f9 a9 f10 a10 f11 a11 f12 a12 f13 a13 f14
  refine f15.splitD 53 rfl (fun h5 f16 => ?_) (fun h5 f16 => ?_)
  ·obtain ⟨d, hd⟩ := some_at p.subs k (by omega)
   obtain ⟨bk, off, hA⟩ := IP.subs.addr (by omega)
   obtain ⟨d', hd'⟩ := some_at q.subs k (by omega)
   obtain ⟨bk', off', hA'⟩ := IQ.subs.addr (by omega)
   refine C.condT f16 rfl ?_
   refine wp_skip (hK9 _ _ ?_)
   have f17 := f16.sub (sc 2 (sc 3 (sc 5 sn)))
   refine wp_seq_k fun K11 hK11 => ?_
   refine wp_block ?_
   refine wp_seq_k fun K12 hK12 => ?_
   refine R.beginT (S := fun W => Kept [] w4 W) (by kernel_rfl) (by kernel_rfl) (by exact (Kept.refl _ _).drewN 1) fun ht => ?_
   have hS6 : Kept [] w4 (w4.drewN 1) := (Kept.refl _ _).drewN 1
   have hd6 : Kept [] w4 (w4.drewN 1) := (Kept.refl _ _).drewN 1
   obtain ⟨w5, hww5⟩ : ∃ W, W = w4.drewN 1 := ⟨_, rfl⟩
   rw [← hww5] at hS6 hd6 ⊢
   clear f15 f16 hww5
   have szw5 := hS6.size
   refine R.u 0 f17 rfl ht hS6 (fun W hW => (E.fa 22 f17 U34 rfl wsz31_wb)) fun a18 f18 => ?_
   refine R.u 1 f18 rfl ht hS6 (fun W hW => (E.ld f18 U31 (Bg0.z hW))) fun a19 f19 => ?_
   refine R.u 2 f19 rfl ht hS6 (fun W hW => (E.move f19 rfl)) fun a20 f20 => ?_
   refine R.u 3 f20 rfl ht hS6 (fun W hW => (E.indexA f20 (by assumption) U31 wsz46_wb rfl rfl (by omega) (by omega))) fun a21 f21 => ?_
   refine R.u 4 f21 rfl ht hS6 (fun W hW => (E.loadR f21 Try.underlying46 rfl wsz46_wb rfl (sub_row (IP.subs.kept (HK.z hW)) hA hd) rfl)) fun a22 f22 => ?_
   refine R.u 5 f22 rfl ht hS6 (fun W hW => (E.fa 22 f22 U34 rfl wsz31_wb)) fun a23 f23 => ?_
   refine R.u 6 f23 rfl ht hS6 (fun W hW => (E.ld f23 U31 (Bg1.z hW))) fun a24 f24 => ?_
   clear f17 a14 f18 a18 f19 a19 f20 a20 f21 a21 f22 a22 f23 a23
   refine R.u 7 f24 rfl ht hS6 (fun W hW => (E.move f24 rfl)) fun a25 f25 => ?_
   refine R.u 8 f25 rfl ht hS6 (fun W hW => (E.indexA f25 (by assumption) U31 wsz46_wb rfl rfl (by omega) (by omega))) fun a26 f26 => ?_
   refine R.u 9 f26 rfl ht hS6 (fun W hW => (E.loadR f26 Try.underlying46 rfl wsz46_wb rfl (sub_row (IQ.subs.kept (HK.z hW)) hA' hd') rfl)) fun a27 f27 => ?_
   refine R.u 10 f27 rfl ht hS6 (fun W hW => (E.neqV f27 rfl rfl (neqSub _ _ _ _ _ _))) fun a28 f28 => ?_
   have szw5r := hS6.size
   replace HK := HK.z hS6
   replace Bg0 := Bg0.z hS6
   replace Bg1 := Bg1.z hS6
   clear f24 a24 f25 a25 f26 a26 f27 a27 hS6
   refine R.done (by kernel_rfl) (hK12 _ _ ?_)
   have f29 := f28.sub (sc 2 (sc 3 (sc 5 (sc 66 sn))))
   clear f28
   refine f29.splitN 66 rfl (fun h6 f30 => ?_) (fun h6 f30 => ?_)
   ·refine C.condT f30 rfl ?_
    refine C.sk fun K13 hK13 => ?_
    refine L.ag f30 fun a31 f31 => ?_
    have f32 := f31.sub (sc 4 sn)
    refine wpList_nil (hK13 _ _ (wp_ret ?_)); (try simp only [xt, xb]); refine C.ret f32 rfl rfl ?_
    refine ⟨HK, ?_⟩
    rw [samePk_f (p := p) (q := q) (fun e => by subst e; (rw [hd] at hd'; cases hd'; apply absurd rfl; assumption))]
   have heq0 := h6
   refine C.condF f30 rfl ?_
   refine wp_skip (hK11 _ _ ?_)
   have f31 := f30.sub (sc 2 (sc 3 (sc 5 sn)))
   refine C.region ?_
   refine L.mv f31 fun a32 f32 => ?_
   refine L.va f32 (E.add f32 rfl rfl (IntWalk.i64_in _ (by omega))) fun a33 f33 => ?_
   refine L.ag f33 fun a34 f34 => ?_
   clear f29 f30 f31 a28 f32 a32 f33 a33
   refine wpList_nil (hKL8 _ _ (gk9 - 1) ?_ ?_)
   ·omega
   exact ⟨k + 1, by omega, HK, Bg0, Bg1, eq_take hq0 hd hd' heq0, f34.sub (sx (sx (sx sn)))⟩
  have hsubs : p.subs = q.subs := by rw [List.take_of_length_le (by omega), List.take_of_length_le (by omega)] at hq0; exact hq0
  refine C.condF f16 rfl ?_
  exact wp_exit (jn J8 (by rw [hJ8]; exact ⟨HK, Bg0, Bg1, hsubs, f16.sub (sx (sx sn))⟩))
 intro a7 w4 hj
 rw [hJ8] at hj
 clear hJ8 J8
 obtain ⟨HK, Bg0, Bg1, hsubs, f7⟩ := hj
 try clear f6
 obtain ⟨J13, hJ13⟩ : ∃ J : Act → World → Prop, J = fun a W => Kept [] w W ∧ Blk W g0 34 (p.cells s) ∧ Blk W g1 34 (q.cells t) ∧ p.codes = q.codes ∧ Fr 195 a [(2, .pointer (some ⟨g0, 0, none⟩)), (3, .pointer (some ⟨g1, 0, none⟩))] := ⟨_, rfl⟩
 refine C.cut J13 ?_ ?_
 ·skip
  refine C.sk fun K14 hK14 => ?_
  refine L.ag f7 fun a8 f8 => ?_
  refine wpList_nil (hK14 _ _ ?_)
  have f9 := f8.sub (sc 2 (sc 3 (sc 6 sn)))
  refine wp_block ?_
  clear f7 a7 f8
  refine C.loop (fun gk a W => ∃ k : Nat, k + gk = p.codes.length ∧ Kept [] w W ∧ Blk W g0 34 (p.cells s) ∧ Blk W g1 34 (q.cells t) ∧ p.codes.take k = q.codes.take k ∧ Fr 195 a [(2, .pointer (some ⟨g0, 0, none⟩)), (3, .pointer (some ⟨g1, 0, none⟩)), (6, .int .i64 k)]) (p.codes.length) ?_ ?_
  ·exact ⟨0, by omega, HK, Bg0, Bg1, rfl, f9.sub (sx (sx (sx sn)))⟩
  intro gk16 a10 w5 hI KL15 hKL15
  obtain ⟨k, hk, HK, Bg0, Bg1, hq1, f10⟩ := hI
  try clear f9
  refine wp_seq_k fun K16 hK16 => ?_
  refine C.sk fun K17 hK17 => ?_
  refine L.mv f10 fun a11 f11 => ?_
  refine L.fa 23 f11 U34 rfl wsz32_wb fun a12 f12 => ?_
  refine L.ld f12 U32 Bg0 fun a13 f13 => ?_
  refine L.va f13 (E.lenL f13 U32 rfl) fun a14 f14 => ?_
  refine L.va f14 (E.lss f14 rfl rfl) fun a15 f15 => ?_
  refine wpList_nil (hK17 _ _ ?_)
  have f16 := f15.sub (sc 2 (sc 3 (sc 6 (sc 71 sn))))
  clear f10 a10 f11 a11 f12 a12 f13 a13 f14 a14 f15
  refine f16.splitD 71 rfl (fun h7 f17 => ?_) (fun h7 f17 => ?_)
  ·obtain ⟨d, hd⟩ := some_at p.codes k (by omega)
   obtain ⟨bk, off, hA⟩ := IP.codes.addr (by omega)
   obtain ⟨d', hd'⟩ := some_at q.codes k (by omega)
   obtain ⟨bk', off', hA'⟩ := IQ.codes.addr (by omega)
   refine C.condT f17 rfl ?_
   refine wp_skip (hK16 _ _ ?_)
   have f18 := f17.sub (sc 2 (sc 3 (sc 6 sn)))
   refine wp_seq_k fun K18 hK18 => ?_
   refine wp_block ?_
   refine wp_seq_k fun K19 hK19 => ?_
   refine R.beginT (S := fun W => Kept [] w5 W) (by kernel_rfl) (by kernel_rfl) (by exact (Kept.refl _ _).drewN 1) fun ht => ?_
   have hS11 : Kept [] w5 (w5.drewN 1) := (Kept.refl _ _).drewN 1
   have hd11 : Kept [] w5 (w5.drewN 1) := (Kept.refl _ _).drewN 1
   obtain ⟨w6, hww6⟩ : ∃ W, W = w5.drewN 1 := ⟨_, rfl⟩
   rw [← hww6] at hS11 hd11 ⊢
   clear f16 f17 hww6
   have szw6 := hS11.size
   refine R.u 0 f18 rfl ht hS11 (fun W hW => (E.fa 23 f18 U34 rfl wsz32_wb)) fun a19 f19 => ?_
   refine R.u 1 f19 rfl ht hS11 (fun W hW => (E.ld f19 U32 (Bg0.z hW))) fun a20 f20 => ?_
   refine R.u 2 f20 rfl ht hS11 (fun W hW => (E.move f20 rfl)) fun a21 f21 => ?_
   refine R.u 3 f21 rfl ht hS11 (fun W hW => (E.indexA f21 (by assumption) U32 wsz3_wb rfl rfl (by omega) (by omega))) fun a22 f22 => ?_
   refine R.u 4 f22 rfl ht hS11 (fun W hW => (E.load f22 U3 rfl rfl (code_cell1 (IP.codes.kept (HK.z hW)) hA hd))) fun a23 f23 => ?_
   refine R.u 5 f23 rfl ht hS11 (fun W hW => (E.fa 23 f23 U34 rfl wsz32_wb)) fun a24 f24 => ?_
   refine R.u 6 f24 rfl ht hS11 (fun W hW => (E.ld f24 U32 (Bg1.z hW))) fun a25 f25 => ?_
   clear f18 a15 f19 a19 f20 a20 f21 a21 f22 a22 f23 a23 f24 a24
   refine R.u 7 f25 rfl ht hS11 (fun W hW => (E.move f25 rfl)) fun a26 f26 => ?_
   refine R.u 8 f26 rfl ht hS11 (fun W hW => (E.indexA f26 (by assumption) U32 wsz3_wb rfl rfl (by omega) (by omega))) fun a27 f27 => ?_
   refine R.u 9 f27 rfl ht hS11 (fun W hW => (E.load f27 U3 rfl rfl (code_cell1 (IQ.codes.kept (HK.z hW)) hA' hd'))) fun a28 f28 => ?_
   refine R.u 10 f28 rfl ht hS11 (fun W hW => (E.neq f28 rfl rfl)) fun a29 f29 => ?_
   have szw6r := hS11.size
   replace HK := HK.z hS11
   replace Bg0 := Bg0.z hS11
   replace Bg1 := Bg1.z hS11
   clear f25 a25 f26 a26 f27 a27 f28 a28 hS11
   refine R.done (by kernel_rfl) (hK19 _ _ ?_)
   have f30 := f29.sub (sc 2 (sc 3 (sc 6 (sc 84 sn))))
   clear f29
   refine f30.splitN 84 rfl (fun h8 f31 => ?_) (fun h8 f31 => ?_)
   ·refine C.condT f31 rfl ?_
    refine C.sk fun K20 hK20 => ?_
    refine L.ag f31 fun a32 f32 => ?_
    have f33 := f32.sub (sc 4 sn)
    refine wpList_nil (hK20 _ _ (wp_ret ?_)); (try simp only [xt, xb]); refine C.ret f33 rfl rfl ?_
    refine ⟨HK, ?_⟩
    rw [samePk_f (p := p) (q := q) (fun e => by subst e; (rw [hd] at hd'; cases hd'; apply absurd rfl; assumption))]
   have heq1 := h8
   refine C.condF f31 rfl ?_
   refine wp_skip (hK18 _ _ ?_)
   have f32 := f31.sub (sc 2 (sc 3 (sc 6 sn)))
   refine C.region ?_
   refine L.mv f32 fun a33 f33 => ?_
   refine L.va f33 (E.add f33 rfl rfl (IntWalk.i64_in _ (by omega))) fun a34 f34 => ?_
   refine L.ag f34 fun a35 f35 => ?_
   clear f30 f31 f32 a29 f33 a33 f34 a34
   refine wpList_nil (hKL15 _ _ (gk16 - 1) ?_ ?_)
   ·omega
   exact ⟨k + 1, by omega, HK, Bg0, Bg1, eq_take hq1 hd hd' heq1, f35.sub (sx (sx (sx sn)))⟩
  have hcodes : p.codes = q.codes := by rw [List.take_of_length_le (by omega), List.take_of_length_le (by omega)] at hq1; exact hq1
  refine C.condF f17 rfl ?_
  exact wp_exit (jn J13 (by rw [hJ13]; exact ⟨HK, Bg0, Bg1, hcodes, f17.sub (sx (sx sn))⟩))
 intro a8 w5 hj
 rw [hJ13] at hj
 clear hJ13 J13
 obtain ⟨HK, Bg0, Bg1, hcodes, f8⟩ := hj
 try clear f7
 refine C.sk fun K21 hK21 => ?_
 refine L.fa 0 f8 U34 rfl wsz3_wb fun a9 f9 => ?_
 refine L.ld f9 U3 Bg0 fun a10 f10 => ?_
 refine L.fa 0 f10 U34 rfl wsz3_wb fun a11 f11 => ?_
 refine L.ld f11 U3 Bg1 fun a12 f12 => ?_
 refine L.va f12 (E.eq f12) fun a13 f13 => ?_
 refine L.mv f13 fun a14 f14 => ?_
 clear f8 a8 f9 a9 f10 a10 f11 a11 f12 a12 f13 a13
 refine f14.splitD 90 rfl (fun h9 f15 => ?_) (fun h9 f15 => ?_)
 ·refine L.fa 1 f15 U34 rfl wsz4_wb (hw := (f15.yes rfl rfl)) fun a16 f16 => ?_
  refine L.ld f16 U4 Bg0 (hw := (f16.yes rfl rfl)) fun a17 f17 => ?_
  refine L.fa 1 f17 U34 rfl wsz4_wb (hw := (f17.yes rfl rfl)) fun a18 f18 => ?_
  refine L.ld f18 U4 Bg1 (hw := (f18.yes rfl rfl)) fun a19 f19 => ?_
  refine L.va f19 (E.eqlB f19 U4 rfl rfl) (hw := (f19.yes rfl rfl)) fun a20 f20 => ?_
  refine L.va f20 (E.pickT f20 rfl rfl) fun a21 f21 => ?_
  refine L.mv f21 fun a22 f22 => ?_
  clear f14 f15 a14 f16 a16 f17 a17 f18 a18 f19 a19 f20 a20 f21 a21
  refine f22.splitD 97 rfl (fun h10 f23 => ?_) (fun h10 f23 => ?_)
  ·refine L.fa 2 f23 U34 rfl wsz4_wb (hw := (f23.yes rfl rfl)) fun a24 f24 => ?_
   refine L.ld f24 U4 Bg0 (hw := (f24.yes rfl rfl)) fun a25 f25 => ?_
   refine L.fa 2 f25 U34 rfl wsz4_wb (hw := (f25.yes rfl rfl)) fun a26 f26 => ?_
   refine L.ld f26 U4 Bg1 (hw := (f26.yes rfl rfl)) fun a27 f27 => ?_
   refine L.va f27 (E.eqlB f27 U4 rfl rfl) (hw := (f27.yes rfl rfl)) fun a28 f28 => ?_
   refine L.va f28 (E.pickT f28 rfl rfl) fun a29 f29 => ?_
   refine L.mv f29 fun a30 f30 => ?_
   clear f22 f23 a22 f24 a24 f25 a25 f26 a26 f27 a27 f28 a28 f29 a29
   refine f30.splitD 104 rfl (fun h11 f31 => ?_) (fun h11 f31 => ?_)
   ·refine L.fa 3 f31 U34 rfl wsz3_wb (hw := (f31.yes rfl rfl)) fun a32 f32 => ?_
    refine L.ld f32 U3 Bg0 (hw := (f32.yes rfl rfl)) fun a33 f33 => ?_
    refine L.fa 3 f33 U34 rfl wsz3_wb (hw := (f33.yes rfl rfl)) fun a34 f34 => ?_
    refine L.ld f34 U3 Bg1 (hw := (f34.yes rfl rfl)) fun a35 f35 => ?_
    refine L.va f35 (E.eq f35) (hw := (f35.yes rfl rfl)) fun a36 f36 => ?_
    refine L.va f36 (E.pickT f36 rfl rfl) fun a37 f37 => ?_
    refine L.mv f37 fun a38 f38 => ?_
    clear f30 f31 a30 f32 a32 f33 a33 f34 a34 f35 a35 f36 a36 f37 a37
    refine f38.splitD 111 rfl (fun h12 f39 => ?_) (fun h12 f39 => ?_)
    ·refine L.fa 4 f39 U34 rfl wsz3_wb (hw := (f39.yes rfl rfl)) fun a40 f40 => ?_
     refine L.ld f40 U3 Bg0 (hw := (f40.yes rfl rfl)) fun a41 f41 => ?_
     refine L.fa 4 f41 U34 rfl wsz3_wb (hw := (f41.yes rfl rfl)) fun a42 f42 => ?_
     refine L.ld f42 U3 Bg1 (hw := (f42.yes rfl rfl)) fun a43 f43 => ?_
     refine L.va f43 (E.eq f43) (hw := (f43.yes rfl rfl)) fun a44 f44 => ?_
     refine L.va f44 (E.pickT f44 rfl rfl) fun a45 f45 => ?_
     refine L.mv f45 fun a46 f46 => ?_
     clear f38 f39 a38 f40 a40 f41 a41 f42 a42 f43 a43 f44 a44 f45 a45
     refine f46.splitD 118 rfl (fun h13 f47 => ?_) (fun h13 f47 => ?_)
     ·refine L.fa 5 f47 U34 rfl wsz9_wb (hw := (f47.yes rfl rfl)) fun a48 f48 => ?_
      refine L.ld f48 U9 Bg0 (hw := (f48.yes rfl rfl)) fun a49 f49 => ?_
      refine L.fa 5 f49 U34 rfl wsz9_wb (hw := (f49.yes rfl rfl)) fun a50 f50 => ?_
      refine L.ld f50 U9 Bg1 (hw := (f50.yes rfl rfl)) fun a51 f51 => ?_
      refine L.va f51 (E.eqlS f51 rfl rfl) (hw := (f51.yes rfl rfl)) fun a52 f52 => ?_
      refine L.va f52 (E.pickT f52 rfl rfl) fun a53 f53 => ?_
      refine L.mv f53 fun a54 f54 => ?_
      clear f46 f47 a46 f48 a48 f49 a49 f50 a50 f51 a51 f52 a52 f53 a53
      refine f54.splitD 125 rfl (fun h14 f55 => ?_) (fun h14 f55 => ?_)
      ·refine L.fa 7 f55 U34 rfl wsz3_wb (hw := (f55.yes rfl rfl)) fun a56 f56 => ?_
       refine L.ld f56 U3 Bg0 (hw := (f56.yes rfl rfl)) fun a57 f57 => ?_
       refine L.fa 7 f57 U34 rfl wsz3_wb (hw := (f57.yes rfl rfl)) fun a58 f58 => ?_
       refine L.ld f58 U3 Bg1 (hw := (f58.yes rfl rfl)) fun a59 f59 => ?_
       refine L.va f59 (E.eq f59) (hw := (f59.yes rfl rfl)) fun a60 f60 => ?_
       refine L.va f60 (E.pickT f60 rfl rfl) fun a61 f61 => ?_
       refine L.mv f61 fun a62 f62 => ?_
       clear f54 f55 a54 f56 a56 f57 a57 f58 a58 f59 a59 f60 a60 f61 a61
       refine f62.splitD 132 rfl (fun h15 f63 => ?_) (fun h15 f63 => ?_)
       ·refine L.fa 8 f63 U34 rfl wsz9_wb (hw := (f63.yes rfl rfl)) fun a64 f64 => ?_
        refine L.ld f64 U9 Bg0 (hw := (f64.yes rfl rfl)) fun a65 f65 => ?_
        refine L.fa 8 f65 U34 rfl wsz9_wb (hw := (f65.yes rfl rfl)) fun a66 f66 => ?_
        refine L.ld f66 U9 Bg1 (hw := (f66.yes rfl rfl)) fun a67 f67 => ?_
        refine L.va f67 (E.eqlS f67 rfl rfl) (hw := (f67.yes rfl rfl)) fun a68 f68 => ?_
        refine L.va f68 (E.pickT f68 rfl rfl) fun a69 f69 => ?_
        refine L.mv f69 fun a70 f70 => ?_
        clear f62 f63 a62 f64 a64 f65 a65 f66 a66 f67 a67 f68 a68 f69 a69
        refine f70.splitD 139 rfl (fun h16 f71 => ?_) (fun h16 f71 => ?_)
        ·refine L.fa 9 f71 U34 rfl wsz4_wb (hw := (f71.yes rfl rfl)) fun a72 f72 => ?_
         refine L.ld f72 U4 Bg0 (hw := (f72.yes rfl rfl)) fun a73 f73 => ?_
         refine L.fa 9 f73 U34 rfl wsz4_wb (hw := (f73.yes rfl rfl)) fun a74 f74 => ?_
         refine L.ld f74 U4 Bg1 (hw := (f74.yes rfl rfl)) fun a75 f75 => ?_
         refine L.va f75 (E.eqlB f75 U4 rfl rfl) (hw := (f75.yes rfl rfl)) fun a76 f76 => ?_
         refine L.va f76 (E.pickT f76 rfl rfl) fun a77 f77 => ?_
         refine L.mv f77 fun a78 f78 => ?_
         clear f70 f71 a70 f72 a72 f73 a73 f74 a74 f75 a75 f76 a76 f77 a77
         refine f78.splitD 146 rfl (fun h17 f79 => ?_) (fun h17 f79 => ?_)
         ·refine L.fa 10 f79 U34 rfl wsz3_wb (hw := (f79.yes rfl rfl)) fun a80 f80 => ?_
          refine L.ld f80 U3 Bg0 (hw := (f80.yes rfl rfl)) fun a81 f81 => ?_
          refine L.fa 10 f81 U34 rfl wsz3_wb (hw := (f81.yes rfl rfl)) fun a82 f82 => ?_
          refine L.ld f82 U3 Bg1 (hw := (f82.yes rfl rfl)) fun a83 f83 => ?_
          refine L.va f83 (E.eq f83) (hw := (f83.yes rfl rfl)) fun a84 f84 => ?_
          refine L.va f84 (E.pickT f84 rfl rfl) fun a85 f85 => ?_
          refine L.mv f85 fun a86 f86 => ?_
          clear f78 f79 a78 f80 a80 f81 a81 f82 a82 f83 a83 f84 a84 f85 a85
          refine f86.splitD 153 rfl (fun h18 f87 => ?_) (fun h18 f87 => ?_)
          ·refine L.fa 11 f87 U34 rfl wsz4_wb (hw := (f87.yes rfl rfl)) fun a88 f88 => ?_
           refine L.ld f88 U4 Bg0 (hw := (f88.yes rfl rfl)) fun a89 f89 => ?_
           refine L.fa 11 f89 U34 rfl wsz4_wb (hw := (f89.yes rfl rfl)) fun a90 f90 => ?_
           refine L.ld f90 U4 Bg1 (hw := (f90.yes rfl rfl)) fun a91 f91 => ?_
           refine L.va f91 (E.eqlB f91 U4 rfl rfl) (hw := (f91.yes rfl rfl)) fun a92 f92 => ?_
           refine L.va f92 (E.pickT f92 rfl rfl) fun a93 f93 => ?_
           refine L.mv f93 fun a94 f94 => ?_
           clear f86 f87 a86 f88 a88 f89 a89 f90 a90 f91 a91 f92 a92 f93 a93
           refine f94.splitD 160 rfl (fun h19 f95 => ?_) (fun h19 f95 => ?_)
           ·refine L.fa 16 f95 U34 rfl wsz4_wb (hw := (f95.yes rfl rfl)) fun a96 f96 => ?_
            refine L.ld f96 U4 Bg0 (hw := (f96.yes rfl rfl)) fun a97 f97 => ?_
            refine L.fa 16 f97 U34 rfl wsz4_wb (hw := (f97.yes rfl rfl)) fun a98 f98 => ?_
            refine L.ld f98 U4 Bg1 (hw := (f98.yes rfl rfl)) fun a99 f99 => ?_
            refine L.va f99 (E.eqlB f99 U4 rfl rfl) (hw := (f99.yes rfl rfl)) fun a100 f100 => ?_
            refine L.va f100 (E.pickT f100 rfl rfl) fun a101 f101 => ?_
            refine L.mv f101 fun a102 f102 => ?_
            clear f94 f95 a94 f96 a96 f97 a97 f98 a98 f99 a99 f100 a100 f101 a101
            refine f102.splitD 167 rfl (fun h20 f103 => ?_) (fun h20 f103 => ?_)
            ·refine L.fa 17 f103 U34 rfl wsz4_wb (hw := (f103.yes rfl rfl)) fun a104 f104 => ?_
             refine L.ld f104 U4 Bg0 (hw := (f104.yes rfl rfl)) fun a105 f105 => ?_
             refine L.fa 17 f105 U34 rfl wsz4_wb (hw := (f105.yes rfl rfl)) fun a106 f106 => ?_
             refine L.ld f106 U4 Bg1 (hw := (f106.yes rfl rfl)) fun a107 f107 => ?_
             refine L.va f107 (E.eqlB f107 U4 rfl rfl) (hw := (f107.yes rfl rfl)) fun a108 f108 => ?_
             refine L.va f108 (E.pickT f108 rfl rfl) fun a109 f109 => ?_
             refine L.mv f109 fun a110 f110 => ?_
             clear f102 f103 a102 f104 a104 f105 a105 f106 a106 f107 a107 f108 a108 f109 a109
             refine f110.splitD 174 rfl (fun h21 f111 => ?_) (fun h21 f111 => ?_)
             ·refine L.fa 18 f111 U34 rfl wsz9_wb (hw := (f111.yes rfl rfl)) fun a112 f112 => ?_
              refine L.ld f112 U9 Bg0 (hw := (f112.yes rfl rfl)) fun a113 f113 => ?_
              refine L.fa 18 f113 U34 rfl wsz9_wb (hw := (f113.yes rfl rfl)) fun a114 f114 => ?_
              refine L.ld f114 U9 Bg1 (hw := (f114.yes rfl rfl)) fun a115 f115 => ?_
              refine L.va f115 (E.eqlS f115 rfl rfl) (hw := (f115.yes rfl rfl)) fun a116 f116 => ?_
              refine L.va f116 (E.pickT f116 rfl rfl) fun a117 f117 => ?_
              refine L.mv f117 fun a118 f118 => ?_
              clear f110 f111 a110 f112 a112 f113 a113 f114 a114 f115 a115 f116 a116 f117 a117
              refine f118.splitD 181 rfl (fun h22 f119 => ?_) (fun h22 f119 => ?_)
              ·refine L.fa 20 f119 U34 rfl wsz4_wb (hw := (f119.yes rfl rfl)) fun a120 f120 => ?_
               refine L.ld f120 U4 Bg0 (hw := (f120.yes rfl rfl)) fun a121 f121 => ?_
               refine L.fa 20 f121 U34 rfl wsz4_wb (hw := (f121.yes rfl rfl)) fun a122 f122 => ?_
               refine L.ld f122 U4 Bg1 (hw := (f122.yes rfl rfl)) fun a123 f123 => ?_
               refine L.va f123 (E.eqlB f123 U4 rfl rfl) (hw := (f123.yes rfl rfl)) fun a124 f124 => ?_
               refine L.va f124 (E.pickT f124 rfl rfl) fun a125 f125 => ?_
               refine L.mv f125 fun a126 f126 => ?_
               clear f118 f119 a118 f120 a120 f121 a121 f122 a122 f123 a123 f124 a124 f125 a125
               refine f126.splitD 188 rfl (fun h23 f127 => ?_) (fun h23 f127 => ?_)
               ·refine L.fa 21 f127 U34 rfl wsz3_wb (hw := (f127.yes rfl rfl)) fun a128 f128 => ?_
                refine L.ld f128 U3 Bg0 (hw := (f128.yes rfl rfl)) fun a129 f129 => ?_
                refine L.fa 21 f129 U34 rfl wsz3_wb (hw := (f129.yes rfl rfl)) fun a130 f130 => ?_
                refine L.ld f130 U3 Bg1 (hw := (f130.yes rfl rfl)) fun a131 f131 => ?_
                refine L.va f131 (E.eq f131) (hw := (f131.yes rfl rfl)) fun a132 f132 => ?_
                refine L.va f132 (E.pickT f132 rfl rfl) fun a133 f133 => ?_
                refine L.ag f133 fun a134 f134 => ?_
                clear f126 f127 a126 f128 a128 f129 a129 f130 a130 f131 a131 f132 a132 f133 a133
                have f135 := f134.sub (sc 4 sn)
                refine wpList_nil (hK21 _ _ (wp_ret ?_)); (try simp only [xt, xb]); refine C.ret f135 rfl rfl ?_
                exact ⟨HK, by rw [same_eq]; simp [greetB, *]⟩
               refine L.run f127 (rest' := []) (by kernel_rfl) fun a128 f128 => ?_
               clear f126
               have f129 := f128.sub (sv 4 (.bool false) sn)
               refine wpList_nil (hK21 _ _ (wp_ret ?_)); (try simp only [xt, xb]); refine C.ret f129 rfl rfl ?_
               exact ⟨HK, by rw [same_eq]; simp [greetB, *]⟩
              refine L.run f119 (rest' := []) (by kernel_rfl) fun a120 f120 => ?_
              clear f118
              have f121 := f120.sub (sv 4 (.bool false) sn)
              refine wpList_nil (hK21 _ _ (wp_ret ?_)); (try simp only [xt, xb]); refine C.ret f121 rfl rfl ?_
              exact ⟨HK, by rw [same_eq]; simp [greetB, *]⟩
             refine L.run f111 (rest' := []) (by kernel_rfl) fun a112 f112 => ?_
             clear f110
             have f113 := f112.sub (sv 4 (.bool false) sn)
             refine wpList_nil (hK21 _ _ (wp_ret ?_)); (try simp only [xt, xb]); refine C.ret f113 rfl rfl ?_
             exact ⟨HK, by rw [same_eq]; simp [greetB, *]⟩
            refine L.run f103 (rest' := []) (by kernel_rfl) fun a104 f104 => ?_
            clear f102
            have f105 := f104.sub (sv 4 (.bool false) sn)
            refine wpList_nil (hK21 _ _ (wp_ret ?_)); (try simp only [xt, xb]); refine C.ret f105 rfl rfl ?_
            exact ⟨HK, by rw [same_eq]; simp [greetB, *]⟩
           refine L.run f95 (rest' := []) (by kernel_rfl) fun a96 f96 => ?_
           clear f94
           have f97 := f96.sub (sv 4 (.bool false) sn)
           refine wpList_nil (hK21 _ _ (wp_ret ?_)); (try simp only [xt, xb]); refine C.ret f97 rfl rfl ?_
           exact ⟨HK, by rw [same_eq]; simp [greetB, *]⟩
          refine L.run f87 (rest' := []) (by kernel_rfl) fun a88 f88 => ?_
          clear f86
          have f89 := f88.sub (sv 4 (.bool false) sn)
          refine wpList_nil (hK21 _ _ (wp_ret ?_)); (try simp only [xt, xb]); refine C.ret f89 rfl rfl ?_
          exact ⟨HK, by rw [same_eq]; simp [greetB, *]⟩
         refine L.run f79 (rest' := []) (by kernel_rfl) fun a80 f80 => ?_
         clear f78
         have f81 := f80.sub (sv 4 (.bool false) sn)
         refine wpList_nil (hK21 _ _ (wp_ret ?_)); (try simp only [xt, xb]); refine C.ret f81 rfl rfl ?_
         exact ⟨HK, by rw [same_eq]; simp [greetB, *]⟩
        refine L.run f71 (rest' := []) (by kernel_rfl) fun a72 f72 => ?_
        clear f70
        have f73 := f72.sub (sv 4 (.bool false) sn)
        refine wpList_nil (hK21 _ _ (wp_ret ?_)); (try simp only [xt, xb]); refine C.ret f73 rfl rfl ?_
        exact ⟨HK, by rw [same_eq]; simp [greetB, *]⟩
       refine L.run f63 (rest' := []) (by kernel_rfl) fun a64 f64 => ?_
       clear f62
       have f65 := f64.sub (sv 4 (.bool false) sn)
       refine wpList_nil (hK21 _ _ (wp_ret ?_)); (try simp only [xt, xb]); refine C.ret f65 rfl rfl ?_
       exact ⟨HK, by rw [same_eq]; simp [greetB, *]⟩
      refine L.run f55 (rest' := []) (by kernel_rfl) fun a56 f56 => ?_
      clear f54
      have f57 := f56.sub (sv 4 (.bool false) sn)
      refine wpList_nil (hK21 _ _ (wp_ret ?_)); (try simp only [xt, xb]); refine C.ret f57 rfl rfl ?_
      exact ⟨HK, by rw [same_eq]; simp [greetB, *]⟩
     refine L.run f47 (rest' := []) (by kernel_rfl) fun a48 f48 => ?_
     clear f46
     have f49 := f48.sub (sv 4 (.bool false) sn)
     refine wpList_nil (hK21 _ _ (wp_ret ?_)); (try simp only [xt, xb]); refine C.ret f49 rfl rfl ?_
     exact ⟨HK, by rw [same_eq]; simp [greetB, *]⟩
    refine L.run f39 (rest' := []) (by kernel_rfl) fun a40 f40 => ?_
    clear f38
    have f41 := f40.sub (sv 4 (.bool false) sn)
    refine wpList_nil (hK21 _ _ (wp_ret ?_)); (try simp only [xt, xb]); refine C.ret f41 rfl rfl ?_
    exact ⟨HK, by rw [same_eq]; simp [greetB, *]⟩
   refine L.run f31 (rest' := []) (by kernel_rfl) fun a32 f32 => ?_
   clear f30
   have f33 := f32.sub (sv 4 (.bool false) sn)
   refine wpList_nil (hK21 _ _ (wp_ret ?_)); (try simp only [xt, xb]); refine C.ret f33 rfl rfl ?_
   exact ⟨HK, by rw [same_eq]; simp [greetB, *]⟩
  refine L.run f23 (rest' := []) (by kernel_rfl) fun a24 f24 => ?_
  clear f22
  have f25 := f24.sub (sv 4 (.bool false) sn)
  refine wpList_nil (hK21 _ _ (wp_ret ?_)); (try simp only [xt, xb]); refine C.ret f25 rfl rfl ?_
  exact ⟨HK, by rw [same_eq]; simp [greetB, *]⟩
 refine L.run f15 (rest' := []) (by kernel_rfl) fun a16 f16 => ?_
 clear f14
 have f17 := f16.sub (sv 4 (.bool false) sn)
 refine wpList_nil (hK21 _ _ (wp_ret ?_)); (try simp only [xt, xb]); refine C.ret f17 rfl rfl ?_
 exact ⟨HK, by rw [same_eq]; simp [greetB, *]⟩
set_option maxHeartbeats 1000000 in
theorem textR_any (b : ByteArray) (w : World)  : Calls Try.prog 25 #[.string b] w (fun e w' => Kept [] w w' ∧ e = .returned (.bool (txB b))) := by
 have HK : Kept [] w w := Kept.refl [] w
 refine C.enter Try.func25 rfl Try.ntmps25 rfl ?_
 intro a0 f0
 have f1 : Fr 12 a0 [(0, .string b)] := f0
 refine C.sk fun K0 hK0 => ?_
 refine L.ag f1 fun a2 f2 => ?_
 have f3 := f2.sub (sc 0 sn)
 refine wpList_nil (hK0 _ _ (C.sk fun K1 hK1 => ?_))
 refine L.mv f3 fun a4 f4 => ?_
 refine L.va f4 (E.lenS f4 U9 rfl) fun a5 f5 => ?_
 refine L.va f5 (E.leq f5 rfl rfl) fun a6 f6 => ?_
 refine L.mv f6 fun a7 f7 => ?_
 clear f0 f1 a0 f2 f3 a2 f4 a4 f5 a5 f6 a6
 refine f7.splitD 6 rfl (fun h0 f8 => ?_) (fun h0 f8 => ?_)
 ·refine L.mv f8 (hw := (f8.yes rfl rfl)) fun a9 f9 => ?_
  refine L.convSB f9 (f9.yes rfl rfl) (by decide) U9 U28 U5 rfl (by omega) fun a10 w1 cb f10 hcb BS kcv => ?_
  have szw1 := kcv.size
  replace HK := HK.z kcv
  clear f7 f8 a7 f9 a9 kcv
  refine L.cl f10 (run_call Try.call46 (args1 f10 rfl)) (chkR_any [5] w1.heap.size _ cb b.toList w1 BS hcb.1 hcb.2) ?_ (hw := (f10.yes rfl rfl))
  rintro e w1x ⟨rfl, rfl⟩
  refine ⟨_, rfl, fun a11 f11 => ?_⟩
  refine L.va f11 (E.lss f11 rfl rfl) (hw := (f11.yes rfl rfl)) fun a12 f12 => ?_
  refine L.va f12 (E.pickT f12 rfl rfl) fun a13 f13 => ?_
  refine L.ag f13 fun a14 f14 => ?_
  have f15 := f14.sub (sc 2 sn)
  refine wpList_nil (hK1 _ _ (wp_ret ?_)); (try simp only [xt, xb]); refine C.ret f15 rfl rfl ?_
  exact ⟨HK, by rw [tx_t (by omega)]⟩
 refine L.sk f8 (f8.noT rfl rfl) fun a9 f9 => ?_
 refine L.sk f9 (f9.noT rfl rfl) fun a10 f10 => ?_
 refine L.run f10 (rest' := []) (by kernel_rfl) fun a11 f11 => ?_
 clear f7 f8 a7 f9 a9
 have f12 := f11.sub (sv 2 (.bool false) sn)
 refine wpList_nil (hK1 _ _ (wp_ret ?_)); (try simp only [xt, xb]); refine C.ret f12 rfl rfl ?_
 exact ⟨HK, by rw [tx_f (by omega)]⟩
end Go.Proofs.Ytkdeedhjkjffpaa
namespace Go.Proofs.Ytkdeedhjkjffpaa
open Go.RowKit Go.Hub Go.Lib Go.Vl
theorem wsz3_wbb : (Try.prog.info? 3).map (·.size) = some 1 := by kernel_rfl
theorem wsz4_wbb : (Try.prog.info? 4).map (·.size) = some 1 := by kernel_rfl
theorem wsz9_wbb : (Try.prog.info? 9).map (·.size) = some 1 := by kernel_rfl
theorem wsz28_wbb : (Try.prog.info? 28).map (·.size) = some 1 := by kernel_rfl
theorem wsz30_wbb : (Try.prog.info? 30).map (·.size) = some 4 := by kernel_rfl
theorem wsz31_wbb : (Try.prog.info? 31).map (·.size) = some 1 := by kernel_rfl
theorem wsz32_wbb : (Try.prog.info? 32).map (·.size) = some 1 := by kernel_rfl
theorem wsz34_wbb : (Try.prog.info? 34).map (·.size) = some 24 := by kernel_rfl
theorem wbl34_0_wbb (x0 : Int) : Try.prog.built 34 [(0, .int .i64 x0)] = some #[.int .i64 x0, (.bool false), (.bool false), (.int .i64 0), (.int .i64 0), (.string ⟨#[]⟩), (.slice none 0 0), (.int .i64 0), (.string ⟨#[]⟩), (.bool false), (.int .i64 0), (.bool false), (.string ⟨#[]⟩), (.slice none 0 0), (.int .i64 0), (.bool false), (.bool false), (.bool false), (.string ⟨#[]⟩), (.slice none 0 0), (.bool false), (.int .i64 0), (.slice none 0 0), (.slice none 0 0)] := by kernel_rfl
theorem will_in {p : Pk} {s : Ad} {w w' : World} (IP : p.In w s) (hk : Kept [] w w') : Sl w' (if p.hasWill = true then s.wa else none) (if p.hasWill = true then p.wp else []).length 1 ((if p.hasWill = true then p.wp else []).map u8) := by
  split
  · exact IP.wp.kept hk
  exact Sl.nil _ _ _
set_option maxRecDepth 100000 in
set_option maxHeartbeats 2000000 in
theorem only_any (p : Pk) (s : Ad) (w : World) (IP : p.In w s) : Calls Try.prog 23 #[.agg (p.cells s)] w (fun e w' => BarePost p w e w') := by
 have HK : Kept [] w w := Kept.refl [] w
 refine C.enter Try.func23 rfl Try.ntmps23 rfl ?_
 intro a0 f0
 have f1 : Fr 105 a0 [(0, .agg (p.cells s))] := f0
 refine C.sk fun K0 hK0 => ?_
 refine L.box f1 wantedN (by decide) rfl rfl fun a2 w1 g0 N0 f2 => ?_
 have Bg0 := N0.blk
 have kg0 := N0.kept
 have log0 := N0.lo
 have ltg0 := Bg0.lt
 have szw1 := kg0.size
 have frg0 : w.heap.size ≤ g0 := Nat.le_trans HK.size log0
 replace HK := HK.z kg0
 clear f0 N0 kg0
 refine L.alloc f2 wantedN (by decide) (z := z34) (fun _ => by kernel_rfl) rfl fun a3 w2 g1 N1 f3 => ?_
 have Bg1 := N1.blk
 have kg1 := N1.kept
 have log1 := N1.lo
 have ltg1 := Bg1.lt
 have szw2 := kg1.size
 have frg1 : w.heap.size ≤ g1 := Nat.le_trans HK.size log1
 have neg0_g1 : g0 ≠ g1 := by have := Bg0.lt; omega
 replace HK := HK.z kg1
 replace Bg0 := Bg0.z kg1
 clear f1 a0 N1 kg1
 have f4 := f3.sub (sc 1 (sc 2 sn))
 refine wpList_nil (hK0 _ _ (C.sk fun K1 hK1 => ?_))
 refine L.fa 0 f4 U34 rfl wsz3_wbb fun a5 f5 => ?_
 refine L.ld f5 U3 Bg0 fun a6 f6 => ?_
 refine L.va f6 (E.build f6 (parts1 f6 rfl) (wbl34_0_wbb _)) fun a7 f7 => ?_
 refine L.alloc f7 wantedN (by decide) (z := z34) (fun _ => by kernel_rfl) rfl fun a8 w3 g2 N2 f8 => ?_
 have Bg2 := N2.blk
 have kg2 := N2.kept
 have log2 := N2.lo
 have ltg2 := Bg2.lt
 have szw3 := kg2.size
 have frg2 : w.heap.size ≤ g2 := Nat.le_trans HK.size log2
 have neg0_g2 : g0 ≠ g2 := by have := Bg0.lt; omega
 have neg1_g2 : g1 ≠ g2 := by have := Bg1.lt; omega
 replace HK := HK.z kg2
 replace Bg0 := Bg0.z kg2
 replace Bg1 := Bg1.z kg2
 clear f2 a2 f3 f4 a3 f5 a5 f6 a6 N2 kg2
 refine L.storeR f8 wantedN wsz34_wbb rfl rfl rfl Bg2 rfl rfl fun a9 w4 f9 NB4 ks4 => ?_
 have szw4 := ks4.size
 replace HK := HK.trans ks4 (ktr (by omega))
 replace Bg0 := Bg0.kept ks4 (by simp; omega)
 replace Bg1 := Bg1.kept ks4 (by simp; omega)
 replace Bg2 := NB4
 clear f7 a7 ks4 f8 a8
 refine wpList_nil (hK1 _ _ ?_)
 have f10 := f9.sub (sc 1 (sc 2 (sc 3 sn)))
 obtain ⟨J28, hJ28⟩ : ∃ J : Act → World → Prop, J = fun a W => ∃ t, Kept [] w W ∧ Blk W g1 34 zeroPk ∧ Blk W g2 34 ((bareP p).cells t) ∧ (∀ W', Kept [] w W' → (bareP p).In W' t) ∧ Fr 105 a [(2, .pointer (some ⟨g1, 0, none⟩)), (3, .pointer (some ⟨g2, 0, none⟩))] := ⟨_, rfl⟩
 clear f9
 refine C.cut J28 ?_ ?_
 ·skip
  refine C.sk fun K2 hK2 => ?_
  refine L.fa 0 f10 U34 rfl wsz3_wbb fun a11 f11 => ?_
  refine L.ld f11 U3 Bg0 fun a12 f12 => ?_
  refine wpList_nil (hK2 _ _ ?_)
  have f13 := f12.sub (sc 1 (sc 2 (sc 3 (sc 8 sn))))
  refine wp_block ?_
  refine C.sk fun K3 hK3 => ?_
  refine L.va f13 (E.eq f13) fun a14 f14 => ?_
  refine L.ag f14 fun a15 f15 => ?_
  refine wpList_nil (hK3 _ _ ?_)
  have f16 := f15.sub (sc 1 (sc 2 (sc 3 (sc 8 (sc 9 sn)))))
  clear f10 a9 f11 a11 f12 f13 a12 f14 a14 f15
  refine f16.splitD 9 rfl (fun h0 f17 => ?_) (fun h0 f17 => ?_)
  ·refine C.condT f17 rfl ?_
   refine wp_seq_k fun K4 hK4 => ?_
   refine R.beginT (S := fun W => Kept [g2] w4 W) (by kernel_rfl) (by kernel_rfl) (by exact (Kept.refl _ _).drewN 1) fun ht => ?_
   have hS4 : Kept [g2] w4 (w4.drewN 1) := (Kept.refl _ _).drewN 1
   have hd4 : Kept [] w4 (w4.drewN 1) := (Kept.refl _ _).drewN 1
   obtain ⟨w5, hww5⟩ : ∃ W, W = w4.drewN 1 := ⟨_, rfl⟩
   rw [← hww5] at hS4 hd4 ⊢
   clear f16 hww5
   have szw5 := hS4.size
   replace Bg2 := Bg2.z hd4
   refine R.u 0 f17 rfl ht hS4 (fun W hW => (E.fa 7 f17 U34 rfl wsz3_wbb)) fun a18 f18 => ?_
   refine R.u 1 f18 rfl ht hS4 (fun W hW => (E.ld f18 U3 (Bg0.kept hW (by simp; omega)))) fun a19 f19 => ?_
   refine R.u 2 f19 rfl ht hS4 (fun W hW => (E.fa 8 f19 U34 rfl wsz9_wbb)) fun a20 f20 => ?_
   refine R.u 3 f20 rfl ht hS4 (fun W hW => (E.ld f20 U9 (Bg0.kept hW (by simp; omega)))) fun a21 f21 => ?_
   refine R.u 4 f21 rfl ht hS4 (fun W hW => (E.fa 9 f21 U34 rfl wsz4_wbb)) fun a22 f22 => ?_
   refine R.u 5 f22 rfl ht hS4 (fun W hW => (E.ld f22 U4 (Bg0.kept hW (by simp; omega)))) fun a23 f23 => ?_
   refine R.u 6 f23 rfl ht hS4 (fun W hW => (E.fa 10 f23 U34 rfl wsz3_wbb)) fun a24 f24 => ?_
   clear f17 a15 f18 a18 f19 a19 f20 a20 f21 a21 f22 a22 f23 a23
   refine R.u 7 f24 rfl ht hS4 (fun W hW => (E.ld f24 U3 (Bg0.kept hW (by simp; omega)))) fun a25 f25 => ?_
   refine R.u 8 f25 rfl ht hS4 (fun W hW => (E.fa 11 f25 U34 rfl wsz4_wbb)) fun a26 f26 => ?_
   refine R.u 9 f26 rfl ht hS4 (fun W hW => (E.ld f26 U4 (Bg0.kept hW (by simp; omega)))) fun a27 f27 => ?_
   refine R.u 10 f27 rfl ht hS4 (fun W hW => (E.fa 16 f27 U34 rfl wsz4_wbb)) fun a28 f28 => ?_
   refine R.u 11 f28 rfl ht hS4 (fun W hW => (E.ld f28 U4 (Bg0.kept hW (by simp; omega)))) fun a29 f29 => ?_
   refine R.u 12 f29 rfl ht hS4 (fun W hW => (E.fa 17 f29 U34 rfl wsz4_wbb)) fun a30 f30 => ?_
   refine R.u 13 f30 rfl ht hS4 (fun W hW => (E.ld f30 U4 (Bg0.kept hW (by simp; omega)))) fun a31 f31 => ?_
   clear f24 a24 f25 a25 f26 a26 f27 a27 f28 a28 f29 a29 f30 a30
   refine R.u 14 f31 rfl ht hS4 (fun W hW => (E.fa 7 f31 U34 rfl wsz3_wbb)) fun a32 f32 => ?_
   refine R.store 15 f32 rfl (by kernel_rfl) wantedN wsz3_wbb rfl rfl rfl Bg2 (by (simp [Value.cells]; done)) (fun _ hW => hS4.trans hW (by simp)) fun a33 w6 f33 NB6 ks6 hSn => ?_
   have szw6 := ks6.size
   replace Bg2 := NB6
   simp only [Value.cells, z1, z2, z3, Nat.reduceAdd, Nat.zero_add] at Bg2
   replace hS4 := hSn
   clear f31 a31 f32 a32 hSn ks6
   refine R.u 16 f33 rfl ht hS4 (fun W hW => (E.fa 8 f33 U34 rfl wsz9_wbb)) fun a34 f34 => ?_
   refine R.store 17 f34 rfl (by kernel_rfl) wantedN wsz9_wbb rfl rfl rfl Bg2 (by (simp [Value.cells]; done)) (fun _ hW => hS4.trans hW (by simp)) fun a35 w7 f35 NB7 ks7 hSn => ?_
   have szw7 := ks7.size
   replace Bg2 := NB7
   simp only [Value.cells, z1, z2, z3, Nat.reduceAdd, Nat.zero_add] at Bg2
   replace hS4 := hSn
   clear f33 a33 f34 a34 hSn ks7
   refine R.u 18 f35 rfl ht hS4 (fun W hW => (E.fa 9 f35 U34 rfl wsz4_wbb)) fun a36 f36 => ?_
   refine R.store 19 f36 rfl (by kernel_rfl) wantedN wsz4_wbb rfl rfl rfl Bg2 (by (simp [Value.cells]; done)) (fun _ hW => hS4.trans hW (by simp)) fun a37 w8 f37 NB8 ks8 hSn => ?_
   have szw8 := ks8.size
   replace Bg2 := NB8
   simp only [Value.cells, z1, z2, z3, Nat.reduceAdd, Nat.zero_add] at Bg2
   replace hS4 := hSn
   clear f35 a35 f36 a36 hSn ks8
   refine R.u 20 f37 rfl ht hS4 (fun W hW => (E.fa 10 f37 U34 rfl wsz3_wbb)) fun a38 f38 => ?_
   refine R.store 21 f38 rfl (by kernel_rfl) wantedN wsz3_wbb rfl rfl rfl Bg2 (by (simp [Value.cells]; done)) (fun _ hW => hS4.trans hW (by simp)) fun a39 w9 f39 NB9 ks9 hSn => ?_
   have szw9 := ks9.size
   replace Bg2 := NB9
   simp only [Value.cells, z1, z2, z3, Nat.reduceAdd, Nat.zero_add] at Bg2
   replace hS4 := hSn
   clear f37 a37 f38 a38 hSn ks9
   refine R.u 22 f39 rfl ht hS4 (fun W hW => (E.fa 11 f39 U34 rfl wsz4_wbb)) fun a40 f40 => ?_
   refine R.store 23 f40 rfl (by kernel_rfl) wantedN wsz4_wbb rfl rfl rfl Bg2 (by (simp [Value.cells]; done)) (fun _ hW => hS4.trans hW (by simp)) fun a41 w10 f41 NB10 ks10 hSn => ?_
   have szw10 := ks10.size
   replace Bg2 := NB10
   simp only [Value.cells, z1, z2, z3, Nat.reduceAdd, Nat.zero_add] at Bg2
   replace hS4 := hSn
   clear f39 a39 f40 a40 hSn ks10
   refine R.u 24 f41 rfl ht hS4 (fun W hW => (E.fa 16 f41 U34 rfl wsz4_wbb)) fun a42 f42 => ?_
   refine R.store 25 f42 rfl (by kernel_rfl) wantedN wsz4_wbb rfl rfl rfl Bg2 (by (simp [Value.cells]; done)) (fun _ hW => hS4.trans hW (by simp)) fun a43 w11 f43 NB11 ks11 hSn => ?_
   have szw11 := ks11.size
   replace Bg2 := NB11
   simp only [Value.cells, z1, z2, z3, Nat.reduceAdd, Nat.zero_add] at Bg2
   replace hS4 := hSn
   clear f41 a41 f42 a42 hSn ks11
   refine R.u 26 f43 rfl ht hS4 (fun W hW => (E.fa 17 f43 U34 rfl wsz4_wbb)) fun a44 f44 => ?_
   refine R.store 27 f44 rfl (by kernel_rfl) wantedN wsz4_wbb rfl rfl rfl Bg2 (by (simp [Value.cells]; done)) (fun _ hW => hS4.trans hW (by simp)) fun a45 w12 f45 NB12 ks12 hSn => ?_
   have szw12 := ks12.size
   replace Bg2 := NB12
   simp only [Value.cells, z1, z2, z3, Nat.reduceAdd, Nat.zero_add] at Bg2
   replace hS4 := hSn
   clear f43 a43 f44 a44 hSn ks12
   have szw12r := hS4.size
   replace HK := HK.trans hS4 (ktr (by omega))
   replace Bg0 := Bg0.kept hS4 (by simp; omega)
   replace Bg1 := Bg1.kept hS4 (by simp; omega)
   clear hS4
   refine R.done (by kernel_rfl) (hK4 _ _ ?_)
   have f46 := f45.sub (sc 1 (sc 2 (sc 3 sn)))
   obtain ⟨J7, hJ7⟩ : ∃ J : Act → World → Prop, J = fun a W => Kept [] w W ∧ Blk W g0 34 (p.cells s) ∧ Blk W g1 34 zeroPk ∧ Blk W g2 34 #[.int .i64 p.kind, .bool false, .bool false, .int .i64 0, .int .i64 0, .string em, .slice none 0 0, .int .i64 p.level, .string p.client, .bool p.clean, .int .i64 p.keep, .bool p.hasWill, .string (if p.hasWill = true then p.wt else em), .slice (if p.hasWill = true then s.wa else none) ((if p.hasWill = true then p.wp else [])).length (if p.hasWill = true then s.wc else 0), .int .i64 (if p.hasWill = true then p.wq else 0), .bool (if p.hasWill = true then p.wr else false), .bool p.hasUser, .bool p.hasPass, .string em, .slice none 0 0, .bool false, .int .i64 0, .slice none 0 0, .slice none 0 0] ∧ Fr 105 a [(1, .pointer (some ⟨g0, 0, none⟩)), (2, .pointer (some ⟨g1, 0, none⟩)), (3, .pointer (some ⟨g2, 0, none⟩))] := ⟨_, rfl⟩
   clear f45
   refine C.cut J7 ?_ ?_
   ·skip
    refine C.sk fun K5 hK5 => ?_
    refine L.fa 11 f46 U34 rfl wsz4_wbb fun a47 f47 => ?_
    refine L.ld f47 U4 Bg0 fun a48 f48 => ?_
    refine wpList_nil (hK5 _ _ ?_)
    have f49 := f48.sub (sc 1 (sc 2 (sc 3 (sc 33 sn))))
    clear f46 a45 f47 a47 f48
    refine f49.split 33 rfl (fun h1 f50 => ?_) (fun h1 f50 => ?_)
    ·have hw33 := h1
     refine C.condT f50 rfl ?_
     refine C.region ?_
     refine L.fa 12 f50 U34 rfl wsz30_wbb fun a51 f51 => ?_
     refine L.va f51 (E.loadR f51 U30 rfl wsz30_wbb rfl (will_row Bg0) rfl) fun a52 f52 => ?_
     refine L.fa 12 f52 U34 rfl wsz30_wbb fun a53 f53 => ?_
     refine L.storeSeg f53 wantedN wsz30_wbb rfl rfl rfl Bg2 (Nat.le_of_ble_eq_true rfl) rfl fun a54 w13 f54 NB13 ks13 => ?_
     have szw13 := ks13.size
     replace HK := HK.trans ks13 (ktr (by omega))
     replace Bg0 := Bg0.kept ks13 (by simp; omega)
     replace Bg1 := Bg1.kept ks13 (by simp; omega)
     replace Bg2 := NB13
     simp only [setSeg, List.set_cons_zero, List.set_cons_succ, Nat.reduceAdd, Nat.zero_add] at Bg2
     clear f49 f50 a48 f51 a51 f52 a52 ks13 f53 a53
     exact wpList_nil (jn J7 (by rw [hJ7]; exact ⟨HK, Bg0, Bg1, (by simp only [hw33, if_true] at Bg2 ⊢; exact Bg2), f54.sub (sx (sx (sx sn)))⟩))
    have hw33 := h1
    refine C.condF f50 rfl ?_
    exact wp_skip (jn J7 (by rw [hJ7]; exact ⟨HK, Bg0, Bg1, (by simp only [hw33, Bool.false_eq_true, if_false] at Bg2 ⊢; exact Bg2), f50.sub (sx (sx (sx sn)))⟩))
   intro a47 w13 hj
   rw [hJ7] at hj
   clear hJ7 J7
   obtain ⟨HK, Bg0, Bg1, Bg2, f47⟩ := hj
   try clear f46
   obtain ⟨J9, hJ9⟩ : ∃ J : Act → World → Prop, J = fun a W => Kept [] w W ∧ Blk W g0 34 (p.cells s) ∧ Blk W g1 34 zeroPk ∧ Blk W g2 34 #[.int .i64 p.kind, .bool false, .bool false, .int .i64 0, .int .i64 0, .string em, .slice none 0 0, .int .i64 p.level, .string p.client, .bool p.clean, .int .i64 p.keep, .bool p.hasWill, .string (if p.hasWill = true then p.wt else em), .slice (if p.hasWill = true then s.wa else none) ((if p.hasWill = true then p.wp else [])).length (if p.hasWill = true then s.wc else 0), .int .i64 (if p.hasWill = true then p.wq else 0), .bool (if p.hasWill = true then p.wr else false), .bool p.hasUser, .bool p.hasPass, .string (if p.hasUser = true then p.user else em), .slice none 0 0, .bool false, .int .i64 0, .slice none 0 0, .slice none 0 0] ∧ Fr 105 a [(1, .pointer (some ⟨g0, 0, none⟩)), (2, .pointer (some ⟨g1, 0, none⟩)), (3, .pointer (some ⟨g2, 0, none⟩))] := ⟨_, rfl⟩
   refine C.cut J9 ?_ ?_
   ·skip
    refine C.sk fun K6 hK6 => ?_
    refine L.fa 16 f47 U34 rfl wsz4_wbb fun a48 f48 => ?_
    refine L.ld f48 U4 Bg0 fun a49 f49 => ?_
    refine wpList_nil (hK6 _ _ ?_)
    have f50 := f49.sub (sc 1 (sc 2 (sc 3 (sc 38 sn))))
    clear f47 a47 f48 a48 f49
    refine f50.split 38 rfl (fun h2 f51 => ?_) (fun h2 f51 => ?_)
    ·have hw38 := h2
     refine C.condT f51 rfl ?_
     refine C.region ?_
     refine L.fa 18 f51 U34 rfl wsz9_wbb fun a52 f52 => ?_
     refine L.ld f52 U9 Bg0 fun a53 f53 => ?_
     refine L.fa 18 f53 U34 rfl wsz9_wbb fun a54 f54 => ?_
     refine L.store f54 wantedN wsz9_wbb rfl rfl rfl Bg2 (by (simp [Value.cells]; done)) fun a55 w14 f55 NB14 ks14 => ?_
     have szw14 := ks14.size
     replace HK := HK.trans ks14 (ktr (by omega))
     replace Bg0 := Bg0.kept ks14 (by simp; omega)
     replace Bg1 := Bg1.kept ks14 (by simp; omega)
     replace Bg2 := NB14
     simp only [Value.cells, z1, z2, z3, Nat.reduceAdd, Nat.zero_add] at Bg2
     clear f50 f51 a49 f52 a52 f53 a53 ks14 f54 a54
     exact wpList_nil (jn J9 (by rw [hJ9]; exact ⟨HK, Bg0, Bg1, (by simp only [hw38, if_true] at Bg2 ⊢; exact Bg2), f55.sub (sx (sx (sx sn)))⟩))
    have hw38 := h2
    refine C.condF f51 rfl ?_
    exact wp_skip (jn J9 (by rw [hJ9]; exact ⟨HK, Bg0, Bg1, (by simp only [hw38, Bool.false_eq_true, if_false] at Bg2 ⊢; exact Bg2), f51.sub (sx (sx (sx sn)))⟩))
   intro a48 w14 hj
   rw [hJ9] at hj
   clear hJ9 J9
   obtain ⟨HK, Bg0, Bg1, Bg2, f48⟩ := hj
   try clear f47
   refine C.sk fun K7 hK7 => ?_
   refine L.fa 17 f48 U34 rfl wsz4_wbb fun a49 f49 => ?_
   refine L.ld f49 U4 Bg0 fun a50 f50 => ?_
   refine wpList_nil (hK7 _ _ ?_)
   have f51 := f50.sub (sc 1 (sc 2 (sc 3 (sc 43 sn))))
   clear f48 a48 f49 a49 f50
   refine f51.split 43 rfl (fun h3 f52 => ?_) (fun h3 f52 => ?_)
   ·have hw43 := h3
    refine C.condT f52 rfl ?_
    refine C.region ?_
    refine L.fa 19 f52 U34 rfl wsz28_wbb fun a53 f53 => ?_
    refine L.ld f53 U28 Bg0 fun a54 f54 => ?_
    refine L.fa 19 f54 U34 rfl wsz28_wbb fun a55 f55 => ?_
    refine L.store f55 wantedN wsz28_wbb rfl rfl rfl Bg2 (by (simp [Value.cells]; done)) fun a56 w15 f56 NB15 ks15 => ?_
    have szw15 := ks15.size
    replace HK := HK.trans ks15 (ktr (by omega))
    replace Bg0 := Bg0.kept ks15 (by simp; omega)
    replace Bg1 := Bg1.kept ks15 (by simp; omega)
    replace Bg2 := NB15
    simp only [Value.cells, z1, z2, z3, Nat.reduceAdd, Nat.zero_add] at Bg2
    clear f51 f52 a50 f53 a53 f54 a54 ks15 f55 a55
    have hb : bareP p = { kind := p.kind, level := p.level, client := p.client, clean := p.clean, keep := p.keep, hasWill := p.hasWill, hasUser := p.hasUser, hasPass := p.hasPass, wt := (if p.hasWill = true then p.wt else em), wp := (if p.hasWill = true then p.wp else []), wq := (if p.hasWill = true then p.wq else 0), wr := (if p.hasWill = true then p.wr else false), user := (if p.hasUser = true then p.user else em), pass := p.pass } := by unfold bareP; (simp [*]; done)
    have hJ : ∃ t, Blk w15 g2 34 ((bareP p).cells t) ∧ ∀ W', Kept [] w W' → (bareP p).In W' t := ⟨⟨none, 0, (if p.hasWill = true then s.wa else none), (if p.hasWill = true then s.wc else 0), s.sa, s.sc, none, 0, none, 0⟩, by rw [hb]; exact Bg2, fun W' hk' => by rw [hb]; exact ⟨Sl.nil _ _ _, will_in IP hk', IP.pass.kept hk', Sl.nil _ _ _, Sl.nil _ _ _⟩⟩
    obtain ⟨tt, BT, IT⟩ := hJ
    exact wpList_nil (jn J28 (by rw [hJ28]; exact ⟨tt, HK, Bg1, BT, IT, f56.sub (sx (sx sn))⟩))
   have hw43 := h3
   refine C.condF f52 rfl ?_
   have hb : bareP p = { kind := p.kind, level := p.level, client := p.client, clean := p.clean, keep := p.keep, hasWill := p.hasWill, hasUser := p.hasUser, hasPass := p.hasPass, wt := (if p.hasWill = true then p.wt else em), wp := (if p.hasWill = true then p.wp else []), wq := (if p.hasWill = true then p.wq else 0), wr := (if p.hasWill = true then p.wr else false), user := (if p.hasUser = true then p.user else em) } := by unfold bareP; (simp [*]; done)
   have hJ : ∃ t, Blk w14 g2 34 ((bareP p).cells t) ∧ ∀ W', Kept [] w W' → (bareP p).In W' t := ⟨⟨none, 0, (if p.hasWill = true then s.wa else none), (if p.hasWill = true then s.wc else 0), none, 0, none, 0, none, 0⟩, by rw [hb]; exact Bg2, fun W' hk' => by rw [hb]; exact ⟨Sl.nil _ _ _, will_in IP hk', Sl.nil _ _ _, Sl.nil _ _ _, Sl.nil _ _ _⟩⟩
   obtain ⟨tt, BT, IT⟩ := hJ
   exact wp_skip (jn J28 (by rw [hJ28]; exact ⟨tt, HK, Bg1, BT, IT, f52.sub (sx (sx sn))⟩))
  refine C.condF f17 rfl ?_
  refine C.sk fun K8 hK8 => ?_
  refine L.va f17 (E.eq f17) fun a18 f18 => ?_
  refine L.ag f18 fun a19 f19 => ?_
  refine wpList_nil (hK8 _ _ ?_)
  have f20 := f19.sub (sc 1 (sc 2 (sc 3 (sc 8 (sc 47 sn)))))
  clear f16 f17 a15 f18 a18 f19
  refine f20.splitD 47 rfl (fun h4 f21 => ?_) (fun h4 f21 => ?_)
  ·refine C.condT f21 rfl ?_
   refine R.beginT (S := fun W => Kept [g2] w4 W) (by kernel_rfl) (by kernel_rfl) (by exact (Kept.refl _ _).drewN 1) fun ht => ?_
   have hS12 : Kept [g2] w4 (w4.drewN 1) := (Kept.refl _ _).drewN 1
   have hd12 : Kept [] w4 (w4.drewN 1) := (Kept.refl _ _).drewN 1
   obtain ⟨w5, hww5⟩ : ∃ W, W = w4.drewN 1 := ⟨_, rfl⟩
   rw [← hww5] at hS12 hd12 ⊢
   clear f20 hww5
   have szw5 := hS12.size
   replace Bg2 := Bg2.z hd12
   refine R.u 0 f21 rfl ht hS12 (fun W hW => (E.fa 20 f21 U34 rfl wsz4_wbb)) fun a22 f22 => ?_
   refine R.u 1 f22 rfl ht hS12 (fun W hW => (E.ld f22 U4 (Bg0.kept hW (by simp; omega)))) fun a23 f23 => ?_
   refine R.u 2 f23 rfl ht hS12 (fun W hW => (E.fa 21 f23 U34 rfl wsz3_wbb)) fun a24 f24 => ?_
   refine R.u 3 f24 rfl ht hS12 (fun W hW => (E.ld f24 U3 (Bg0.kept hW (by simp; omega)))) fun a25 f25 => ?_
   refine R.u 4 f25 rfl ht hS12 (fun W hW => (E.fa 20 f25 U34 rfl wsz4_wbb)) fun a26 f26 => ?_
   refine R.store 5 f26 rfl (by kernel_rfl) wantedN wsz4_wbb rfl rfl rfl Bg2 (by (simp [Value.cells]; done)) (fun _ hW => hS12.trans hW (by simp)) fun a27 w6 f27 NB6 ks6 hSn => ?_
   have szw6 := ks6.size
   replace Bg2 := NB6
   simp only [Value.cells, z1, z2, z3, Nat.reduceAdd, Nat.zero_add] at Bg2
   replace hS12 := hSn
   clear f21 a19 f22 a22 f23 a23 f24 a24 f25 a25 f26 a26 hSn ks6
   refine R.u 6 f27 rfl ht hS12 (fun W hW => (E.fa 21 f27 U34 rfl wsz3_wbb)) fun a28 f28 => ?_
   refine R.store 7 f28 rfl (by kernel_rfl) wantedN wsz3_wbb rfl rfl rfl Bg2 (by (simp [Value.cells]; done)) (fun _ hW => hS12.trans hW (by simp)) fun a29 w7 f29 NB7 ks7 hSn => ?_
   have szw7 := ks7.size
   replace Bg2 := NB7
   simp only [Value.cells, z1, z2, z3, Nat.reduceAdd, Nat.zero_add] at Bg2
   replace hS12 := hSn
   clear f27 a27 f28 a28 hSn ks7
   have szw7r := hS12.size
   replace HK := HK.trans hS12 (ktr (by omega))
   replace Bg0 := Bg0.kept hS12 (by simp; omega)
   replace Bg1 := Bg1.kept hS12 (by simp; omega)
   clear hS12
   have hb : bareP p = { kind := p.kind, present := p.present, code := p.code } := by unfold bareP; (simp [*]; done)
   have hJ : ∃ t, Blk w7 g2 34 ((bareP p).cells t) ∧ ∀ W', Kept [] w W' → (bareP p).In W' t := ⟨⟨none, 0, none, 0, none, 0, none, 0, none, 0⟩, by rw [hb]; exact Bg2, fun W' hk' => by rw [hb]; exact ⟨Sl.nil _ _ _, Sl.nil _ _ _, Sl.nil _ _ _, Sl.nil _ _ _, Sl.nil _ _ _⟩⟩
   obtain ⟨tt, BT, IT⟩ := hJ
   exact R.done (by kernel_rfl) (jn J28 (by rw [hJ28]; exact ⟨tt, HK, Bg1, BT, IT, f29.sub (sx (sx sn))⟩))
  refine C.condF f21 rfl ?_
  refine C.sk fun K9 hK9 => ?_
  refine L.va f21 (E.eq f21) fun a22 f22 => ?_
  refine L.ag f22 fun a23 f23 => ?_
  refine wpList_nil (hK9 _ _ ?_)
  have f24 := f23.sub (sc 1 (sc 2 (sc 3 (sc 8 (sc 55 sn)))))
  clear f20 f21 a19 f22 a22 f23
  refine f24.splitD 55 rfl (fun h5 f25 => ?_) (fun h5 f25 => ?_)
  ·refine C.condT f25 rfl ?_
   refine wp_seq_k fun K10 hK10 => ?_
   refine R.beginT (S := fun W => Kept [g2] w4 W) (by kernel_rfl) (by kernel_rfl) (by exact (Kept.refl _ _).drewN 1) fun ht => ?_
   have hS14 : Kept [g2] w4 (w4.drewN 1) := (Kept.refl _ _).drewN 1
   have hd14 : Kept [] w4 (w4.drewN 1) := (Kept.refl _ _).drewN 1
   obtain ⟨w5, hww5⟩ : ∃ W, W = w4.drewN 1 := ⟨_, rfl⟩
   rw [← hww5] at hS14 hd14 ⊢
   clear f24 hww5
   have szw5 := hS14.size
   replace Bg2 := Bg2.z hd14
   refine R.u 0 f25 rfl ht hS14 (fun W hW => (E.fa 2 f25 U34 rfl wsz4_wbb)) fun a26 f26 => ?_
   refine R.u 1 f26 rfl ht hS14 (fun W hW => (E.ld f26 U4 (Bg0.kept hW (by simp; omega)))) fun a27 f27 => ?_
   refine R.u 2 f27 rfl ht hS14 (fun W hW => (E.fa 3 f27 U34 rfl wsz3_wbb)) fun a28 f28 => ?_
   refine R.u 3 f28 rfl ht hS14 (fun W hW => (E.ld f28 U3 (Bg0.kept hW (by simp; omega)))) fun a29 f29 => ?_
   refine R.u 4 f29 rfl ht hS14 (fun W hW => (E.fa 5 f29 U34 rfl wsz9_wbb)) fun a30 f30 => ?_
   refine R.u 5 f30 rfl ht hS14 (fun W hW => (E.ld f30 U9 (Bg0.kept hW (by simp; omega)))) fun a31 f31 => ?_
   refine R.u 6 f31 rfl ht hS14 (fun W hW => (E.fa 6 f31 U34 rfl wsz28_wbb)) fun a32 f32 => ?_
   clear f25 a23 f26 a26 f27 a27 f28 a28 f29 a29 f30 a30 f31 a31
   refine R.u 7 f32 rfl ht hS14 (fun W hW => (E.ld f32 U28 (Bg0.kept hW (by simp; omega)))) fun a33 f33 => ?_
   refine R.u 8 f33 rfl ht hS14 (fun W hW => (E.fa 2 f33 U34 rfl wsz4_wbb)) fun a34 f34 => ?_
   refine R.store 9 f34 rfl (by kernel_rfl) wantedN wsz4_wbb rfl rfl rfl Bg2 (by (simp [Value.cells]; done)) (fun _ hW => hS14.trans hW (by simp)) fun a35 w6 f35 NB6 ks6 hSn => ?_
   have szw6 := ks6.size
   replace Bg2 := NB6
   simp only [Value.cells, z1, z2, z3, Nat.reduceAdd, Nat.zero_add] at Bg2
   replace hS14 := hSn
   clear f32 a32 f33 a33 f34 a34 hSn ks6
   refine R.u 10 f35 rfl ht hS14 (fun W hW => (E.fa 3 f35 U34 rfl wsz3_wbb)) fun a36 f36 => ?_
   refine R.store 11 f36 rfl (by kernel_rfl) wantedN wsz3_wbb rfl rfl rfl Bg2 (by (simp [Value.cells]; done)) (fun _ hW => hS14.trans hW (by simp)) fun a37 w7 f37 NB7 ks7 hSn => ?_
   have szw7 := ks7.size
   replace Bg2 := NB7
   simp only [Value.cells, z1, z2, z3, Nat.reduceAdd, Nat.zero_add] at Bg2
   replace hS14 := hSn
   clear f35 a35 f36 a36 hSn ks7
   refine R.u 12 f37 rfl ht hS14 (fun W hW => (E.fa 5 f37 U34 rfl wsz9_wbb)) fun a38 f38 => ?_
   refine R.store 13 f38 rfl (by kernel_rfl) wantedN wsz9_wbb rfl rfl rfl Bg2 (by (simp [Value.cells]; done)) (fun _ hW => hS14.trans hW (by simp)) fun a39 w8 f39 NB8 ks8 hSn => ?_
   have szw8 := ks8.size
   replace Bg2 := NB8
   simp only [Value.cells, z1, z2, z3, Nat.reduceAdd, Nat.zero_add] at Bg2
   replace hS14 := hSn
   clear f37 a37 f38 a38 hSn ks8
   refine R.u 14 f39 rfl ht hS14 (fun W hW => (E.fa 6 f39 U34 rfl wsz28_wbb)) fun a40 f40 => ?_
   refine R.store 15 f40 rfl (by kernel_rfl) wantedN wsz28_wbb rfl rfl rfl Bg2 (by (simp [Value.cells]; done)) (fun _ hW => hS14.trans hW (by simp)) fun a41 w9 f41 NB9 ks9 hSn => ?_
   have szw9 := ks9.size
   replace Bg2 := NB9
   simp only [Value.cells, z1, z2, z3, Nat.reduceAdd, Nat.zero_add] at Bg2
   replace hS14 := hSn
   clear f39 a39 f40 a40 hSn ks9
   have szw9r := hS14.size
   replace HK := HK.trans hS14 (ktr (by omega))
   replace Bg0 := Bg0.kept hS14 (by simp; omega)
   replace Bg1 := Bg1.kept hS14 (by simp; omega)
   clear hS14
   refine R.done (by kernel_rfl) (hK10 _ _ ?_)
   have f42 := f41.sub (sc 1 (sc 2 (sc 3 sn)))
   refine C.sk fun K11 hK11 => ?_
   refine L.fa 3 f42 U34 rfl wsz3_wbb fun a43 f43 => ?_
   refine L.ld f43 U3 Bg0 fun a44 f44 => ?_
   refine L.va f44 (E.gtr f44 rfl rfl) fun a45 f45 => ?_
   refine wpList_nil (hK11 _ _ ?_)
   have f46 := f45.sub (sc 1 (sc 2 (sc 3 (sc 71 sn))))
   clear f41 f42 a41 f43 a43 f44 a44 f45
   refine f46.splitD 71 rfl (fun h6 f47 => ?_) (fun h6 f47 => ?_)
   ·refine C.condT f47 rfl ?_
    refine R.beginT (S := fun W => Kept [g2] w9 W) (by kernel_rfl) (by kernel_rfl) (by exact (Kept.refl _ _).drewN 1) fun ht => ?_
    have hS16 : Kept [g2] w9 (w9.drewN 1) := (Kept.refl _ _).drewN 1
    have hd16 : Kept [] w9 (w9.drewN 1) := (Kept.refl _ _).drewN 1
    obtain ⟨w10, hww10⟩ : ∃ W, W = w9.drewN 1 := ⟨_, rfl⟩
    rw [← hww10] at hS16 hd16 ⊢
    clear f46 hww10
    have szw10 := hS16.size
    replace Bg2 := Bg2.z hd16
    refine R.u 0 f47 rfl ht hS16 (fun W hW => (E.fa 1 f47 U34 rfl wsz4_wbb)) fun a48 f48 => ?_
    refine R.u 1 f48 rfl ht hS16 (fun W hW => (E.ld f48 U4 (Bg0.kept hW (by simp; omega)))) fun a49 f49 => ?_
    refine R.u 2 f49 rfl ht hS16 (fun W hW => (E.fa 4 f49 U34 rfl wsz3_wbb)) fun a50 f50 => ?_
    refine R.u 3 f50 rfl ht hS16 (fun W hW => (E.ld f50 U3 (Bg0.kept hW (by simp; omega)))) fun a51 f51 => ?_
    refine R.u 4 f51 rfl ht hS16 (fun W hW => (E.fa 1 f51 U34 rfl wsz4_wbb)) fun a52 f52 => ?_
    refine R.store 5 f52 rfl (by kernel_rfl) wantedN wsz4_wbb rfl rfl rfl Bg2 (by (simp [Value.cells]; done)) (fun _ hW => hS16.trans hW (by simp)) fun a53 w11 f53 NB11 ks11 hSn => ?_
    have szw11 := ks11.size
    replace Bg2 := NB11
    simp only [Value.cells, z1, z2, z3, Nat.reduceAdd, Nat.zero_add] at Bg2
    replace hS16 := hSn
    clear f47 a45 f48 a48 f49 a49 f50 a50 f51 a51 f52 a52 hSn ks11
    refine R.u 6 f53 rfl ht hS16 (fun W hW => (E.fa 4 f53 U34 rfl wsz3_wbb)) fun a54 f54 => ?_
    refine R.store 7 f54 rfl (by kernel_rfl) wantedN wsz3_wbb rfl rfl rfl Bg2 (by (simp [Value.cells]; done)) (fun _ hW => hS16.trans hW (by simp)) fun a55 w12 f55 NB12 ks12 hSn => ?_
    have szw12 := ks12.size
    replace Bg2 := NB12
    simp only [Value.cells, z1, z2, z3, Nat.reduceAdd, Nat.zero_add] at Bg2
    replace hS16 := hSn
    clear f53 a53 f54 a54 hSn ks12
    have szw12r := hS16.size
    replace HK := HK.trans hS16 (ktr (by omega))
    replace Bg0 := Bg0.kept hS16 (by simp; omega)
    replace Bg1 := Bg1.kept hS16 (by simp; omega)
    clear hS16
    have hb : bareP p = { kind := p.kind, retain := p.retain, qos := p.qos, topic := p.topic, pay := p.pay, dup := p.dup, id := p.id } := by unfold bareP; (simp [*]; done)
    have hJ : ∃ t, Blk w12 g2 34 ((bareP p).cells t) ∧ ∀ W', Kept [] w W' → (bareP p).In W' t := ⟨⟨s.pa, s.pc, none, 0, none, 0, none, 0, none, 0⟩, by rw [hb]; exact Bg2, fun W' hk' => by rw [hb]; exact ⟨IP.pay.kept hk', Sl.nil _ _ _, Sl.nil _ _ _, Sl.nil _ _ _, Sl.nil _ _ _⟩⟩
    obtain ⟨tt, BT, IT⟩ := hJ
    exact R.done (by kernel_rfl) (jn J28 (by rw [hJ28]; exact ⟨tt, HK, Bg1, BT, IT, f55.sub (sx (sx sn))⟩))
   refine C.condF f47 rfl ?_
   have hb : bareP p = { kind := p.kind, retain := p.retain, qos := p.qos, topic := p.topic, pay := p.pay } := by unfold bareP; (simp [*]; done)
   have hJ : ∃ t, Blk w9 g2 34 ((bareP p).cells t) ∧ ∀ W', Kept [] w W' → (bareP p).In W' t := ⟨⟨s.pa, s.pc, none, 0, none, 0, none, 0, none, 0⟩, by rw [hb]; exact Bg2, fun W' hk' => by rw [hb]; exact ⟨IP.pay.kept hk', Sl.nil _ _ _, Sl.nil _ _ _, Sl.nil _ _ _, Sl.nil _ _ _⟩⟩
   obtain ⟨tt, BT, IT⟩ := hJ
   exact wp_skip (jn J28 (by rw [hJ28]; exact ⟨tt, HK, Bg1, BT, IT, f47.sub (sx (sx sn))⟩))
  refine C.condF f25 rfl ?_
  refine wp_seq_k fun K12 hK12 => ?_
  refine C.sk fun K13 hK13 => ?_
  refine L.va f25 (E.eq f25) fun a26 f26 => ?_
  refine L.ag f26 fun a27 f27 => ?_
  refine wpList_nil (hK13 _ _ ?_)
  have f28 := f27.sub (sc 1 (sc 2 (sc 3 (sc 8 (sc 78 sn)))))
  clear f24 f25 a23 f26 a26 f27
  refine f28.splitD 78 rfl (fun h7 f29 => ?_) (fun h7 f29 => ?_)
  ·refine C.condT f29 rfl ?_
   refine wp_skip (hK12 _ _ ?_)
   have f30 := f29.sub (sc 1 (sc 2 (sc 3 (sc 8 (sc 78 sn)))))
   refine C.condT f30 rfl ?_
   refine R.beginT (S := fun W => Kept [g2] w4 W) (by kernel_rfl) (by kernel_rfl) (by exact (Kept.refl _ _).drewN 1) fun ht => ?_
   have hS19 : Kept [g2] w4 (w4.drewN 1) := (Kept.refl _ _).drewN 1
   have hd19 : Kept [] w4 (w4.drewN 1) := (Kept.refl _ _).drewN 1
   obtain ⟨w5, hww5⟩ : ∃ W, W = w4.drewN 1 := ⟨_, rfl⟩
   rw [← hww5] at hS19 hd19 ⊢
   clear f28 f29 hww5
   have szw5 := hS19.size
   replace Bg2 := Bg2.z hd19
   refine R.u 0 f30 rfl ht hS19 (fun W hW => (E.fa 4 f30 U34 rfl wsz3_wbb)) fun a31 f31 => ?_
   refine R.u 1 f31 rfl ht hS19 (fun W hW => (E.ld f31 U3 (Bg0.kept hW (by simp; omega)))) fun a32 f32 => ?_
   refine R.u 2 f32 rfl ht hS19 (fun W hW => (E.fa 22 f32 U34 rfl wsz31_wbb)) fun a33 f33 => ?_
   refine R.u 3 f33 rfl ht hS19 (fun W hW => (E.ld f33 U31 (Bg0.kept hW (by simp; omega)))) fun a34 f34 => ?_
   refine R.u 4 f34 rfl ht hS19 (fun W hW => (E.fa 4 f34 U34 rfl wsz3_wbb)) fun a35 f35 => ?_
   refine R.store 5 f35 rfl (by kernel_rfl) wantedN wsz3_wbb rfl rfl rfl Bg2 (by (simp [Value.cells]; done)) (fun _ hW => hS19.trans hW (by simp)) fun a36 w6 f36 NB6 ks6 hSn => ?_
   have szw6 := ks6.size
   replace Bg2 := NB6
   simp only [Value.cells, z1, z2, z3, Nat.reduceAdd, Nat.zero_add] at Bg2
   replace hS19 := hSn
   clear f30 a27 f31 a31 f32 a32 f33 a33 f34 a34 f35 a35 hSn ks6
   refine R.u 6 f36 rfl ht hS19 (fun W hW => (E.fa 22 f36 U34 rfl wsz31_wbb)) fun a37 f37 => ?_
   refine R.store 7 f37 rfl (by kernel_rfl) wantedN wsz31_wbb rfl rfl rfl Bg2 (by (simp [Value.cells]; done)) (fun _ hW => hS19.trans hW (by simp)) fun a38 w7 f38 NB7 ks7 hSn => ?_
   have szw7 := ks7.size
   replace Bg2 := NB7
   simp only [Value.cells, z1, z2, z3, Nat.reduceAdd, Nat.zero_add] at Bg2
   replace hS19 := hSn
   clear f36 a36 f37 a37 hSn ks7
   have szw7r := hS19.size
   replace HK := HK.trans hS19 (ktr (by omega))
   replace Bg0 := Bg0.kept hS19 (by simp; omega)
   replace Bg1 := Bg1.kept hS19 (by simp; omega)
   clear hS19
   have hn : numB p = true := by exact numB_t (by omega)
   have hb : bareP p = { kind := p.kind, id := p.id, subs := p.subs } := by unfold bareP; (simp [*]; done)
   have hJ : ∃ t, Blk w7 g2 34 ((bareP p).cells t) ∧ ∀ W', Kept [] w W' → (bareP p).In W' t := ⟨⟨none, 0, none, 0, none, 0, s.ua, s.uc, none, 0⟩, by rw [hb]; exact Bg2, fun W' hk' => by rw [hb]; exact ⟨Sl.nil _ _ _, Sl.nil _ _ _, Sl.nil _ _ _, IP.subs.kept hk', Sl.nil _ _ _⟩⟩
   obtain ⟨tt, BT, IT⟩ := hJ
   exact R.done (by kernel_rfl) (jn J28 (by rw [hJ28]; exact ⟨tt, HK, Bg1, BT, IT, f38.sub (sx (sx sn))⟩))
  refine C.condF f29 rfl ?_
  refine C.region ?_
  refine L.va f29 (E.eq f29) fun a30 f30 => ?_
  refine L.ag f30 fun a31 f31 => ?_
  refine wpList_nil (hK12 _ _ ?_)
  have f32 := f31.sub (sc 1 (sc 2 (sc 3 (sc 8 (sc 78 sn)))))
  clear f28 f29 a27 f30 a30 f31
  refine f32.splitD 78 rfl (fun h8 f33 => ?_) (fun h8 f33 => ?_)
  ·refine C.condT f33 rfl ?_
   refine R.beginT (S := fun W => Kept [g2] w4 W) (by kernel_rfl) (by kernel_rfl) (by exact (Kept.refl _ _).drewN 1) fun ht => ?_
   have hS19 : Kept [g2] w4 (w4.drewN 1) := (Kept.refl _ _).drewN 1
   have hd19 : Kept [] w4 (w4.drewN 1) := (Kept.refl _ _).drewN 1
   obtain ⟨w5, hww5⟩ : ∃ W, W = w4.drewN 1 := ⟨_, rfl⟩
   rw [← hww5] at hS19 hd19 ⊢
   clear f32 hww5
   have szw5 := hS19.size
   replace Bg2 := Bg2.z hd19
   refine R.u 0 f33 rfl ht hS19 (fun W hW => (E.fa 4 f33 U34 rfl wsz3_wbb)) fun a34 f34 => ?_
   refine R.u 1 f34 rfl ht hS19 (fun W hW => (E.ld f34 U3 (Bg0.kept hW (by simp; omega)))) fun a35 f35 => ?_
   refine R.u 2 f35 rfl ht hS19 (fun W hW => (E.fa 22 f35 U34 rfl wsz31_wbb)) fun a36 f36 => ?_
   refine R.u 3 f36 rfl ht hS19 (fun W hW => (E.ld f36 U31 (Bg0.kept hW (by simp; omega)))) fun a37 f37 => ?_
   refine R.u 4 f37 rfl ht hS19 (fun W hW => (E.fa 4 f37 U34 rfl wsz3_wbb)) fun a38 f38 => ?_
   refine R.store 5 f38 rfl (by kernel_rfl) wantedN wsz3_wbb rfl rfl rfl Bg2 (by (simp [Value.cells]; done)) (fun _ hW => hS19.trans hW (by simp)) fun a39 w6 f39 NB6 ks6 hSn => ?_
   have szw6 := ks6.size
   replace Bg2 := NB6
   simp only [Value.cells, z1, z2, z3, Nat.reduceAdd, Nat.zero_add] at Bg2
   replace hS19 := hSn
   clear f33 a31 f34 a34 f35 a35 f36 a36 f37 a37 f38 a38 hSn ks6
   refine R.u 6 f39 rfl ht hS19 (fun W hW => (E.fa 22 f39 U34 rfl wsz31_wbb)) fun a40 f40 => ?_
   refine R.store 7 f40 rfl (by kernel_rfl) wantedN wsz31_wbb rfl rfl rfl Bg2 (by (simp [Value.cells]; done)) (fun _ hW => hS19.trans hW (by simp)) fun a41 w7 f41 NB7 ks7 hSn => ?_
   have szw7 := ks7.size
   replace Bg2 := NB7
   simp only [Value.cells, z1, z2, z3, Nat.reduceAdd, Nat.zero_add] at Bg2
   replace hS19 := hSn
   clear f39 a39 f40 a40 hSn ks7
   have szw7r := hS19.size
   replace HK := HK.trans hS19 (ktr (by omega))
   replace Bg0 := Bg0.kept hS19 (by simp; omega)
   replace Bg1 := Bg1.kept hS19 (by simp; omega)
   clear hS19
   have hn : numB p = true := by exact numB_t (by omega)
   have hb : bareP p = { kind := p.kind, id := p.id, subs := p.subs } := by unfold bareP; (simp [*]; done)
   have hJ : ∃ t, Blk w7 g2 34 ((bareP p).cells t) ∧ ∀ W', Kept [] w W' → (bareP p).In W' t := ⟨⟨none, 0, none, 0, none, 0, s.ua, s.uc, none, 0⟩, by rw [hb]; exact Bg2, fun W' hk' => by rw [hb]; exact ⟨Sl.nil _ _ _, Sl.nil _ _ _, Sl.nil _ _ _, IP.subs.kept hk', Sl.nil _ _ _⟩⟩
   obtain ⟨tt, BT, IT⟩ := hJ
   exact R.done (by kernel_rfl) (jn J28 (by rw [hJ28]; exact ⟨tt, HK, Bg1, BT, IT, f41.sub (sx (sx sn))⟩))
  refine C.condF f33 rfl ?_
  refine C.sk fun K14 hK14 => ?_
  refine L.va f33 (E.eq f33) fun a34 f34 => ?_
  refine L.ag f34 fun a35 f35 => ?_
  refine wpList_nil (hK14 _ _ ?_)
  have f36 := f35.sub (sc 1 (sc 2 (sc 3 (sc 8 (sc 87 sn)))))
  clear f32 f33 a31 f34 a34 f35
  refine f36.splitD 87 rfl (fun h9 f37 => ?_) (fun h9 f37 => ?_)
  ·refine C.condT f37 rfl ?_
   refine R.beginT (S := fun W => Kept [g2] w4 W) (by kernel_rfl) (by kernel_rfl) (by exact (Kept.refl _ _).drewN 1) fun ht => ?_
   have hS21 : Kept [g2] w4 (w4.drewN 1) := (Kept.refl _ _).drewN 1
   have hd21 : Kept [] w4 (w4.drewN 1) := (Kept.refl _ _).drewN 1
   obtain ⟨w5, hww5⟩ : ∃ W, W = w4.drewN 1 := ⟨_, rfl⟩
   rw [← hww5] at hS21 hd21 ⊢
   clear f36 hww5
   have szw5 := hS21.size
   replace Bg2 := Bg2.z hd21
   refine R.u 0 f37 rfl ht hS21 (fun W hW => (E.fa 4 f37 U34 rfl wsz3_wbb)) fun a38 f38 => ?_
   refine R.u 1 f38 rfl ht hS21 (fun W hW => (E.ld f38 U3 (Bg0.kept hW (by simp; omega)))) fun a39 f39 => ?_
   refine R.u 2 f39 rfl ht hS21 (fun W hW => (E.fa 23 f39 U34 rfl wsz32_wbb)) fun a40 f40 => ?_
   refine R.u 3 f40 rfl ht hS21 (fun W hW => (E.ld f40 U32 (Bg0.kept hW (by simp; omega)))) fun a41 f41 => ?_
   refine R.u 4 f41 rfl ht hS21 (fun W hW => (E.fa 4 f41 U34 rfl wsz3_wbb)) fun a42 f42 => ?_
   refine R.store 5 f42 rfl (by kernel_rfl) wantedN wsz3_wbb rfl rfl rfl Bg2 (by (simp [Value.cells]; done)) (fun _ hW => hS21.trans hW (by simp)) fun a43 w6 f43 NB6 ks6 hSn => ?_
   have szw6 := ks6.size
   replace Bg2 := NB6
   simp only [Value.cells, z1, z2, z3, Nat.reduceAdd, Nat.zero_add] at Bg2
   replace hS21 := hSn
   clear f37 a35 f38 a38 f39 a39 f40 a40 f41 a41 f42 a42 hSn ks6
   refine R.u 6 f43 rfl ht hS21 (fun W hW => (E.fa 23 f43 U34 rfl wsz32_wbb)) fun a44 f44 => ?_
   refine R.store 7 f44 rfl (by kernel_rfl) wantedN wsz32_wbb rfl rfl rfl Bg2 (by (simp [Value.cells]; done)) (fun _ hW => hS21.trans hW (by simp)) fun a45 w7 f45 NB7 ks7 hSn => ?_
   have szw7 := ks7.size
   replace Bg2 := NB7
   simp only [Value.cells, z1, z2, z3, Nat.reduceAdd, Nat.zero_add] at Bg2
   replace hS21 := hSn
   clear f43 a43 f44 a44 hSn ks7
   have szw7r := hS21.size
   replace HK := HK.trans hS21 (ktr (by omega))
   replace Bg0 := Bg0.kept hS21 (by simp; omega)
   replace Bg1 := Bg1.kept hS21 (by simp; omega)
   clear hS21
   have hn : numB p = true := by exact numB_t (by omega)
   have hb : bareP p = { kind := p.kind, id := p.id, codes := p.codes } := by unfold bareP; (simp [*]; done)
   have hJ : ∃ t, Blk w7 g2 34 ((bareP p).cells t) ∧ ∀ W', Kept [] w W' → (bareP p).In W' t := ⟨⟨none, 0, none, 0, none, 0, none, 0, s.ca, s.cc⟩, by rw [hb]; exact Bg2, fun W' hk' => by rw [hb]; exact ⟨Sl.nil _ _ _, Sl.nil _ _ _, Sl.nil _ _ _, Sl.nil _ _ _, IP.codes.kept hk'⟩⟩
   obtain ⟨tt, BT, IT⟩ := hJ
   exact R.done (by kernel_rfl) (jn J28 (by rw [hJ28]; exact ⟨tt, HK, Bg1, BT, IT, f45.sub (sx (sx sn))⟩))
  refine C.condF f37 rfl ?_
  refine wp_seq_k fun K15 hK15 => ?_
  refine C.sk fun K16 hK16 => ?_
  refine L.va f37 (E.eq f37) fun a38 f38 => ?_
  refine L.ag f38 fun a39 f39 => ?_
  refine wpList_nil (hK16 _ _ ?_)
  have f40 := f39.sub (sc 1 (sc 2 (sc 3 (sc 8 (sc 95 sn)))))
  clear f36 f37 a35 f38 a38 f39
  refine f40.splitD 95 rfl (fun h10 f41 => ?_) (fun h10 f41 => ?_)
  ·refine C.condT f41 rfl ?_
   refine wp_skip (hK15 _ _ ?_)
   have f42 := f41.sub (sc 1 (sc 2 (sc 3 (sc 95 sn))))
   refine C.condT f42 rfl ?_
   refine C.region ?_
   refine L.fa 4 f42 U34 rfl wsz3_wbb fun a43 f43 => ?_
   refine L.ld f43 U3 Bg0 fun a44 f44 => ?_
   refine L.fa 4 f44 U34 rfl wsz3_wbb fun a45 f45 => ?_
   refine L.store f45 wantedN wsz3_wbb rfl rfl rfl Bg2 (by (simp [Value.cells]; done)) fun a46 w5 f46 NB5 ks5 => ?_
   have szw5 := ks5.size
   replace HK := HK.trans ks5 (ktr (by omega))
   replace Bg0 := Bg0.kept ks5 (by simp; omega)
   replace Bg1 := Bg1.kept ks5 (by simp; omega)
   replace Bg2 := NB5
   simp only [Value.cells, z1, z2, z3, Nat.reduceAdd, Nat.zero_add] at Bg2
   clear f40 f41 f42 a39 f43 a43 f44 a44 ks5 f45 a45
   have hn : numB p = true := by exact numB_t (by omega)
   have hb : bareP p = { kind := p.kind, id := p.id } := by unfold bareP; (simp [*]; done)
   have hJ : ∃ t, Blk w5 g2 34 ((bareP p).cells t) ∧ ∀ W', Kept [] w W' → (bareP p).In W' t := ⟨⟨none, 0, none, 0, none, 0, none, 0, none, 0⟩, by rw [hb]; exact Bg2, fun W' hk' => by rw [hb]; exact ⟨Sl.nil _ _ _, Sl.nil _ _ _, Sl.nil _ _ _, Sl.nil _ _ _, Sl.nil _ _ _⟩⟩
   obtain ⟨tt, BT, IT⟩ := hJ
   exact wpList_nil (jn J28 (by rw [hJ28]; exact ⟨tt, HK, Bg1, BT, IT, f46.sub (sx (sx sn))⟩))
  refine C.condF f41 rfl ?_
  refine C.sk fun K17 hK17 => ?_
  refine L.va f41 (E.eq f41) fun a42 f42 => ?_
  refine L.ag f42 fun a43 f43 => ?_
  refine wpList_nil (hK17 _ _ ?_)
  have f44 := f43.sub (sc 1 (sc 2 (sc 3 (sc 8 (sc 95 sn)))))
  clear f40 f41 a39 f42 a42 f43
  refine f44.splitD 95 rfl (fun h11 f45 => ?_) (fun h11 f45 => ?_)
  ·refine C.condT f45 rfl ?_
   refine wp_skip (hK15 _ _ ?_)
   have f46 := f45.sub (sc 1 (sc 2 (sc 3 (sc 95 sn))))
   refine C.condT f46 rfl ?_
   refine C.region ?_
   refine L.fa 4 f46 U34 rfl wsz3_wbb fun a47 f47 => ?_
   refine L.ld f47 U3 Bg0 fun a48 f48 => ?_
   refine L.fa 4 f48 U34 rfl wsz3_wbb fun a49 f49 => ?_
   refine L.store f49 wantedN wsz3_wbb rfl rfl rfl Bg2 (by (simp [Value.cells]; done)) fun a50 w5 f50 NB5 ks5 => ?_
   have szw5 := ks5.size
   replace HK := HK.trans ks5 (ktr (by omega))
   replace Bg0 := Bg0.kept ks5 (by simp; omega)
   replace Bg1 := Bg1.kept ks5 (by simp; omega)
   replace Bg2 := NB5
   simp only [Value.cells, z1, z2, z3, Nat.reduceAdd, Nat.zero_add] at Bg2
   clear f44 f45 f46 a43 f47 a47 f48 a48 ks5 f49 a49
   have hn : numB p = true := by exact numB_t (by omega)
   have hb : bareP p = { kind := p.kind, id := p.id } := by unfold bareP; (simp [*]; done)
   have hJ : ∃ t, Blk w5 g2 34 ((bareP p).cells t) ∧ ∀ W', Kept [] w W' → (bareP p).In W' t := ⟨⟨none, 0, none, 0, none, 0, none, 0, none, 0⟩, by rw [hb]; exact Bg2, fun W' hk' => by rw [hb]; exact ⟨Sl.nil _ _ _, Sl.nil _ _ _, Sl.nil _ _ _, Sl.nil _ _ _, Sl.nil _ _ _⟩⟩
   obtain ⟨tt, BT, IT⟩ := hJ
   exact wpList_nil (jn J28 (by rw [hJ28]; exact ⟨tt, HK, Bg1, BT, IT, f50.sub (sx (sx sn))⟩))
  refine C.condF f45 rfl ?_
  refine C.sk fun K18 hK18 => ?_
  refine L.va f45 (E.eq f45) fun a46 f46 => ?_
  refine L.ag f46 fun a47 f47 => ?_
  refine wpList_nil (hK18 _ _ ?_)
  have f48 := f47.sub (sc 1 (sc 2 (sc 3 (sc 8 (sc 95 sn)))))
  clear f44 f45 a43 f46 a46 f47
  refine f48.splitD 95 rfl (fun h12 f49 => ?_) (fun h12 f49 => ?_)
  ·refine C.condT f49 rfl ?_
   refine wp_skip (hK15 _ _ ?_)
   have f50 := f49.sub (sc 1 (sc 2 (sc 3 (sc 95 sn))))
   refine C.condT f50 rfl ?_
   refine C.region ?_
   refine L.fa 4 f50 U34 rfl wsz3_wbb fun a51 f51 => ?_
   refine L.ld f51 U3 Bg0 fun a52 f52 => ?_
   refine L.fa 4 f52 U34 rfl wsz3_wbb fun a53 f53 => ?_
   refine L.store f53 wantedN wsz3_wbb rfl rfl rfl Bg2 (by (simp [Value.cells]; done)) fun a54 w5 f54 NB5 ks5 => ?_
   have szw5 := ks5.size
   replace HK := HK.trans ks5 (ktr (by omega))
   replace Bg0 := Bg0.kept ks5 (by simp; omega)
   replace Bg1 := Bg1.kept ks5 (by simp; omega)
   replace Bg2 := NB5
   simp only [Value.cells, z1, z2, z3, Nat.reduceAdd, Nat.zero_add] at Bg2
   clear f48 f49 f50 a47 f51 a51 f52 a52 ks5 f53 a53
   have hn : numB p = true := by exact numB_t (by omega)
   have hb : bareP p = { kind := p.kind, id := p.id } := by unfold bareP; (simp [*]; done)
   have hJ : ∃ t, Blk w5 g2 34 ((bareP p).cells t) ∧ ∀ W', Kept [] w W' → (bareP p).In W' t := ⟨⟨none, 0, none, 0, none, 0, none, 0, none, 0⟩, by rw [hb]; exact Bg2, fun W' hk' => by rw [hb]; exact ⟨Sl.nil _ _ _, Sl.nil _ _ _, Sl.nil _ _ _, Sl.nil _ _ _, Sl.nil _ _ _⟩⟩
   obtain ⟨tt, BT, IT⟩ := hJ
   exact wpList_nil (jn J28 (by rw [hJ28]; exact ⟨tt, HK, Bg1, BT, IT, f54.sub (sx (sx sn))⟩))
  refine C.condF f49 rfl ?_
  refine C.sk fun K19 hK19 => ?_
  refine L.va f49 (E.eq f49) fun a50 f50 => ?_
  refine L.ag f50 fun a51 f51 => ?_
  refine wpList_nil (hK19 _ _ ?_)
  have f52 := f51.sub (sc 1 (sc 2 (sc 3 (sc 8 (sc 95 sn)))))
  clear f48 f49 a47 f50 a50 f51
  refine f52.splitD 95 rfl (fun h13 f53 => ?_) (fun h13 f53 => ?_)
  ·refine C.condT f53 rfl ?_
   refine wp_skip (hK15 _ _ ?_)
   have f54 := f53.sub (sc 1 (sc 2 (sc 3 (sc 95 sn))))
   refine C.condT f54 rfl ?_
   refine C.region ?_
   refine L.fa 4 f54 U34 rfl wsz3_wbb fun a55 f55 => ?_
   refine L.ld f55 U3 Bg0 fun a56 f56 => ?_
   refine L.fa 4 f56 U34 rfl wsz3_wbb fun a57 f57 => ?_
   refine L.store f57 wantedN wsz3_wbb rfl rfl rfl Bg2 (by (simp [Value.cells]; done)) fun a58 w5 f58 NB5 ks5 => ?_
   have szw5 := ks5.size
   replace HK := HK.trans ks5 (ktr (by omega))
   replace Bg0 := Bg0.kept ks5 (by simp; omega)
   replace Bg1 := Bg1.kept ks5 (by simp; omega)
   replace Bg2 := NB5
   simp only [Value.cells, z1, z2, z3, Nat.reduceAdd, Nat.zero_add] at Bg2
   clear f52 f53 f54 a51 f55 a55 f56 a56 ks5 f57 a57
   have hn : numB p = true := by exact numB_t (by omega)
   have hb : bareP p = { kind := p.kind, id := p.id } := by unfold bareP; (simp [*]; done)
   have hJ : ∃ t, Blk w5 g2 34 ((bareP p).cells t) ∧ ∀ W', Kept [] w W' → (bareP p).In W' t := ⟨⟨none, 0, none, 0, none, 0, none, 0, none, 0⟩, by rw [hb]; exact Bg2, fun W' hk' => by rw [hb]; exact ⟨Sl.nil _ _ _, Sl.nil _ _ _, Sl.nil _ _ _, Sl.nil _ _ _, Sl.nil _ _ _⟩⟩
   obtain ⟨tt, BT, IT⟩ := hJ
   exact wpList_nil (jn J28 (by rw [hJ28]; exact ⟨tt, HK, Bg1, BT, IT, f58.sub (sx (sx sn))⟩))
  refine C.condF f53 rfl ?_
  refine C.region ?_
  refine L.va f53 (E.eq f53) fun a54 f54 => ?_
  refine L.ag f54 fun a55 f55 => ?_
  refine wpList_nil (hK15 _ _ ?_)
  have f56 := f55.sub (sc 1 (sc 2 (sc 3 (sc 95 sn))))
  clear f52 f53 a51 f54 a54 f55
  refine f56.splitD 95 rfl (fun h14 f57 => ?_) (fun h14 f57 => ?_)
  ·refine C.condT f57 rfl ?_
   refine C.region ?_
   refine L.fa 4 f57 U34 rfl wsz3_wbb fun a58 f58 => ?_
   refine L.ld f58 U3 Bg0 fun a59 f59 => ?_
   refine L.fa 4 f59 U34 rfl wsz3_wbb fun a60 f60 => ?_
   refine L.store f60 wantedN wsz3_wbb rfl rfl rfl Bg2 (by (simp [Value.cells]; done)) fun a61 w5 f61 NB5 ks5 => ?_
   have szw5 := ks5.size
   replace HK := HK.trans ks5 (ktr (by omega))
   replace Bg0 := Bg0.kept ks5 (by simp; omega)
   replace Bg1 := Bg1.kept ks5 (by simp; omega)
   replace Bg2 := NB5
   simp only [Value.cells, z1, z2, z3, Nat.reduceAdd, Nat.zero_add] at Bg2
   clear f56 f57 a55 f58 a58 f59 a59 ks5 f60 a60
   have hn : numB p = true := by exact numB_t (by omega)
   have hb : bareP p = { kind := p.kind, id := p.id } := by unfold bareP; (simp [*]; done)
   have hJ : ∃ t, Blk w5 g2 34 ((bareP p).cells t) ∧ ∀ W', Kept [] w W' → (bareP p).In W' t := ⟨⟨none, 0, none, 0, none, 0, none, 0, none, 0⟩, by rw [hb]; exact Bg2, fun W' hk' => by rw [hb]; exact ⟨Sl.nil _ _ _, Sl.nil _ _ _, Sl.nil _ _ _, Sl.nil _ _ _, Sl.nil _ _ _⟩⟩
   obtain ⟨tt, BT, IT⟩ := hJ
   exact wpList_nil (jn J28 (by rw [hJ28]; exact ⟨tt, HK, Bg1, BT, IT, f61.sub (sx (sx sn))⟩))
  refine C.condF f57 rfl ?_
  have hn : numB p = false := by exact numB_f (by omega) (by omega)
  have hb : bareP p = { kind := p.kind } := by unfold bareP; (simp [*]; done)
  have hJ : ∃ t, Blk w4 g2 34 ((bareP p).cells t) ∧ ∀ W', Kept [] w W' → (bareP p).In W' t := ⟨⟨none, 0, none, 0, none, 0, none, 0, none, 0⟩, by rw [hb]; exact Bg2, fun W' hk' => by rw [hb]; exact ⟨Sl.nil _ _ _, Sl.nil _ _ _, Sl.nil _ _ _, Sl.nil _ _ _, Sl.nil _ _ _⟩⟩
  obtain ⟨tt, BT, IT⟩ := hJ
  exact wp_skip (jn J28 (by rw [hJ28]; exact ⟨tt, HK, Bg1, BT, IT, f57.sub (sx (sx sn))⟩))
 intro a11 w5 hj
 rw [hJ28] at hj
 clear hJ28 J28
 obtain ⟨tt, HK, Bg1, Bg2, IT, f11⟩ := hj
 try clear f10
 refine C.sk fun K20 hK20 => ?_
 refine L.va f11 (E.loadB f11 U34 rfl wsz34_wbb rfl (Bg2) rfl) fun a12 f12 => ?_
 refine L.storeR f12 wantedN wsz34_wbb rfl rfl rfl Bg1 rfl rfl fun a13 w6 f13 NB6 ks6 => ?_
 have szw6 := ks6.size
 replace HK := HK.trans ks6 (ktr (by omega))
 replace Bg2 := Bg2.kept ks6 (by simp; omega)
 replace Bg1 := NB6
 clear f11 a11 ks6 f12 a12
 have f14 := f13.sub (sc 2 sn)
 refine wpList_nil (hK20 _ _ (wp_ret ?_)); (try simp only [xt, xb]); refine C.retC f14 rfl rfl Bg1 U34 rfl wsz34_wbb ?_
 exact ⟨HK, tt, rfl, IT _ HK⟩
end Go.Proofs.Ytkdeedhjkjffpaa
namespace Go.Proofs.Ytkdeedhjkjffpaa
open Go.RowKit Go.Hub Go.Lib Go.Vl
theorem wzib5_wc : (Try.prog.info? 5).map (fun i => (i.zero, i.size, i.bytes)) = some (some (.int .u8 0), 1, 1) := by kernel_rfl
theorem wzi5_wc : (Try.prog.info? 5).map (fun i => (i.zero, i.size)) = some (some (.int .u8 0), 1) := by kernel_rfl
theorem wbs28_1_wc (x0 : Int) : Instr.fill (fun i => some (i * 1, 1)) ((Array.range (1 * 1)).map fun j => (Value.cells (.int .u8 0))[j % (Value.cells (.int .u8 0)).size]!) [(0, .int .u8 x0)] = some #[.int .u8 x0] := by kernel_rfl
theorem wbs28_2_wc (x0 : Int) (x1 : Int) : Instr.fill (fun i => some (i * 1, 1)) ((Array.range (2 * 1)).map fun j => (Value.cells (.int .u8 0))[j % (Value.cells (.int .u8 0)).size]!) [(0, .int .u8 x0), (1, .int .u8 x1)] = some #[.int .u8 x0, .int .u8 x1] := by kernel_rfl
theorem wsz3_wc : (Try.prog.info? 3).map (·.size) = some 1 := by kernel_rfl
theorem wsz4_wc : (Try.prog.info? 4).map (·.size) = some 1 := by kernel_rfl
theorem wsz9_wc : (Try.prog.info? 9).map (·.size) = some 1 := by kernel_rfl
theorem wsz28_wc : (Try.prog.info? 28).map (·.size) = some 1 := by kernel_rfl
theorem wsz30_wc : (Try.prog.info? 30).map (·.size) = some 4 := by kernel_rfl
theorem wsz31_wc : (Try.prog.info? 31).map (·.size) = some 1 := by kernel_rfl
theorem wsz32_wc : (Try.prog.info? 32).map (·.size) = some 1 := by kernel_rfl
theorem wsz46_wc : (Try.prog.info? 46).map (·.size) = some 2 := by kernel_rfl
def FB (w W : World) (A : Option Addr) (c : Nat) (l : List UInt8) : Prop := Fresh w W 5 1 A l.length c (l.map u8)
theorem FB.nil (w W : World) : FB w W none 0 [] := Fresh.nil _ _ _ _
section
variable {w W W' : World} {A A' : Option Addr} {c c' : Nat} {l b : List UInt8}
theorem FB.own (h : FB w W A c l) : Own W 5 1 (.slice A l.length c) l.length (l.map u8) := Fresh.own h
theorem FB.kept0 (h : FB w W A c l) (hk : Kept [] W W') : FB w W' A c l := Fresh.kept0 h hk
theorem FB.rel {L : List Nat} (h : FB w W A c l) (hk : Kept L w W) (hk' : Kept (Value.slice A l.length c).ownBlock.toList W W') : Kept L w W' := hk.trans hk' fun x hx hlt => by
  have := Fresh.lo h x ((own_block A l.length c x).1 (by simpa using hx))
  omega
theorem _root_.Go.Hub.App.nextB {news : List Value} {m : Nat} (h : App W W' 5 1 A l.length c (l.map u8) news m A' c') (F : FB w W A c l) (hs : w.heap.size ≤ W.heap.size) (b : List UInt8) (hn : news = b.map u8) (hm : m = b.length) : FB w W' A' c' (l ++ b) := by
  subst hn hm
  have := h.next F hs
  unfold FB
  rw [List.length_append, List.map_append]
  exact this
theorem sl_lenF (F : FB w W A c (l ++ b)) {m : Nat} (hm : m = b.length) : Value.slice A (l.length + m) c = .slice A (l ++ b).length c := by rw [List.length_append, hm]
def BufPost (w W : World) (A : Option Addr) (c : Nat) (l b : List UInt8) (e : Ending) (w' : World) : Prop := ∃ A' c', e = .returned (.slice A' (l ++ b).length c') ∧ FB w w' A' c' (l ++ b) ∧ Kept (Value.slice A l.length c).ownBlock.toList W w'
theorem AppPost.buf {e : Ending} (h : AppPost W A l.length c (l.map u8) b e W') (F : FB w W A c l) (hs : w.heap.size ≤ W.heap.size) : BufPost w W A c l b e W' := by
  obtain ⟨A', c', rfl, ap⟩ := h
  exact ⟨A', c', by rw [List.length_append], Go.Hub.App.nextB ap F hs b rfl rfl, ap.kept⟩
theorem twoBR (A : Option Addr) (c : Nat) (l : List UInt8) (n : Int) (w W : World) (F : FB w W A c l) (hs : w.heap.size ≤ W.heap.size) (hl : l.length ≤ 5000000000000) : Calls Try.prog 49 #[.slice A l.length c, .int .i64 n] W fun e w' => BufPost w W A c l (twoL n) e w' :=
  (twoR_any A l.length c _ n W F.own (by omega)).mono fun e w' h => AppPost.buf h F hs
theorem lumpBR (A : Option Addr) (c : Nat) (l : List UInt8) (b : ByteArray) (w W : World) (F : FB w W A c l) (hs : w.heap.size ≤ W.heap.size) (hl : l.length ≤ 5000000000000) (hb : b.size ≤ 1000000) : Calls Try.prog 47 #[.slice A l.length c, .string b] W fun e w' => BufPost w W A c l (lumpL b.toList) e w' :=
  (lumpR_any A l.length c _ b W F.own hl hb).mono fun e w' h => AppPost.buf h F hs
theorem FB.lower {w0 : World} (h : FB w W A c l) (hs : w0.heap.size ≤ w.heap.size) : FB w0 W A c l := Fresh.lower h hs
theorem FB.short {r t : List UInt8} (_h : FB w W A c l) (hq : l ++ r = t) (ht : t.length ≤ 3000000000000) : l.length ≤ 3000000000000 := by
  have := congrArg List.length hq
  rw [List.length_append] at this
  omega
theorem NewB.of (HK : Kept [] w W) (F : FB w W A c l) (h : l = b) : NewB b w (.returned (.slice A l.length c)) W := by
  subst h
  exact ⟨HK, A, c, rfl, F⟩
theorem drop_out {α : Type} (l : List α) {k : Nat} (h : l.length ≤ k) : l.drop k = [] := List.drop_eq_nil_of_le h
theorem drop_at {α : Type} {l : List α} {k : Nat} {d : α} (hd : l[k]? = some d) : l.drop k = d :: l.drop (k + 1) := by
  obtain ⟨h, e⟩ := List.getElem?_eq_some_iff.1 hd
  rw [List.drop_eq_getElem_cons h, e]
theorem subL_len (k : Int) (x : ByteArray × Int) : (subL k x).length ≤ 3 + x.1.size := by unfold subL; rw [List.length_append, lumpL_len, bytes_len]; split <;> simp <;> omega
theorem flat_len_le : ∀ (k : Int) (l : List (ByteArray × Int)), (∀ x ∈ l, x.1.size ≤ 1000000) → (l.flatMap (subL k)).length ≤ l.length * 1000003
  | _, [], _ => by simp
  | k, x :: r, h => by
    have h1 := subL_len k x
    have h2 := h x (by simp)
    have h3 := flat_len_le k r fun y hy => h y (by simp [hy])
    rw [List.flatMap_cons, List.length_append, List.length_cons]
    omega
theorem connL_len {p : Pk} (hL : p.Len) : (connL p).length ≤ 10000000 := by
  obtain ⟨L1, L2, L3, L4, L5, L6, L7, L8, L9, L10⟩ := hL
  have e1 : mqtt.toList.length = 4 := by rw [bytes_len]; rfl
  unfold connL
  simp only [List.length_append, lumpL_len, twoL_len, bytes_len, List.length_cons, List.length_nil, e1]
  repeat' split
  all_goals simp only [List.length_append, lumpL_len, bytes_len, List.length_nil]
  all_goals have e2 : mqtt.size = 4 := rfl
  all_goals omega
theorem bodyR_len {p : Pk} (hL : p.Len) : (bodyR p).length ≤ 3000000000000 := by
  have hc := connL_len hL
  obtain ⟨L1, L2, L3, L4, L5, L6, L7, L8, L9, L10⟩ := hL
  have h3 := flat_len_le p.kind p.subs L10
  unfold bodyR
  split
  · omega
  split
  · simp
  split
  · simp only [List.length_append, lumpL_len, bytes_len]
    have : (if 0 < p.qos then twoL p.id else []).length ≤ 2 := by split <;> simp [twoL_len]
    omega
  split
  · simp
  simp only [List.length_append, List.length_map, twoL_len]
  omega
theorem bodyR_else {p : Pk} (h : ¬ p.kind = 1 ∧ ¬ p.kind = 2 ∧ ¬ p.kind = 3 ∧ ¬ p.kind = 12 ∧ ¬ p.kind = 13 ∧ ¬ p.kind = 14) : bodyR p = twoL p.id ++ p.subs.flatMap (subL p.kind) ++ p.codes.map b8 := by
  obtain ⟨h1, h2, h3, h4, h5, h6⟩ := h
  have : inB p.kind 12 14 = false := by simp [inB]; omega
  simp [bodyR, h1, h2, h3, this]
theorem sub_cell0 {A : Option Addr} {l : List (ByteArray × Int)} {w : World} (h : Sl w A l.length 2 (subCells l)) {b off i : Nat} {x : ByteArray × Int} (hA : A = some ⟨b, off, none⟩) (hx : l[i]? = some x) : w.cell? ⟨b, off + (i : Int).toNat * 2 + 0, none⟩ = some (.string x.1) := by
  have := sub_row h hA hx 0 (.string x.1) rfl
  simpa using this
theorem sub_cell1 {A : Option Addr} {l : List (ByteArray × Int)} {w : World} (h : Sl w A l.length 2 (subCells l)) {b off i : Nat} {x : ByteArray × Int} (hA : A = some ⟨b, off, none⟩) (hx : l[i]? = some x) : w.cell? ⟨b, off + (i : Int).toNat * 2 + 1, none⟩ = some (.int .i64 x.2) := by
  have := sub_row h hA hx 1 (.int .i64 x.2) rfl
  simpa using this
theorem bytes_arr (l : List UInt8) : (⟨l.toArray⟩ : ByteArray).size = l.length := by simp [ByteArray.size]
end
set_option maxRecDepth 100000 in
set_option maxHeartbeats 4000000 in
theorem body_any (p : Pk) (s : Ad) (w : World) (IP : p.In w s) (hL : p.Len) (hq1 : p.kind = 1 → 0 ≤ p.wq ∧ p.wq ≤ 2) : Calls Try.prog 26 #[.agg (p.cells s)] w (fun e w' => NewB (bodyR p) w e w') := by
 have HK : Kept [] w w := Kept.refl [] w
 have hBL := bodyR_len hL
 obtain ⟨L1, L2, L3, L4, L5, L6, L7, L8, L9, L10⟩ := hL
 have hf1 := flg_bd p.clean 2 (by omega)
 have hf2 := flg_bd p.hasWill 4 (by omega)
 have hf3 := flg_bd p.wr 32 (by omega)
 have hf4 := flg_bd p.hasPass 64 (by omega)
 have hf5 := flg_bd p.hasUser 128 (by omega)
 have F0 : FB w w none 0 [] := FB.nil _ _
 have hBLc : (connL p).length ≤ 3000000000000 := by have := connL_len (p := p) ⟨L1, L2, L3, L4, L5, L6, L7, L8, L9, L10⟩; omega
 refine C.enter Try.func26 rfl Try.ntmps26 rfl ?_
 intro a0 f0
 have f1 : Fr 157 a0 [(0, .agg (p.cells s))] := f0
 refine C.sk fun K0 hK0 => ?_
 refine L.box f1 wantedN (by decide) rfl rfl fun a2 w1 g0 N0 f2 => ?_
 have Bg0 := N0.blk
 have kg0 := N0.kept
 have log0 := N0.lo
 have ltg0 := Bg0.lt
 have szw1 := kg0.size
 have frg0 : w.heap.size ≤ g0 := Nat.le_trans HK.size log0
 replace HK := HK.z kg0
 replace F0 := F0.kept0 kg0
 clear f0 N0 kg0
 refine L.ag f2 fun a3 f3 => ?_
 have f4 := f3.sub (sc 1 sn)
 refine wpList_nil (hK0 _ _ (C.sk fun K1 hK1 => ?_))
 refine L.ag f4 fun a5 f5 => ?_
 refine wpList_nil (hK1 _ _ ?_)
 have f6 := f5.sub (sc 1 (sc 3 sn))
 refine wp_seq_k fun K2 hK2 => ?_
 refine C.sk fun K3 hK3 => ?_
 refine L.fa 0 f6 U34 rfl wsz3_wc fun a7 f7 => ?_
 refine L.ld f7 U3 Bg0 fun a8 f8 => ?_
 refine wpList_nil (hK3 _ _ ?_)
 have f9 := f8.sub (sc 1 (sc 3 (sc 7 sn)))
 refine wp_block ?_
 refine C.sk fun K4 hK4 => ?_
 refine L.va f9 (E.eq f9) fun a10 f10 => ?_
 clear f1 a0 f2 a2 f3 f4 a3 f5 f6 a5 f7 a7 f8 f9 a8
 refine L.ag f10 fun a11 f11 => ?_
 refine wpList_nil (hK4 _ _ ?_)
 have f12 := f11.sub (sc 1 (sc 3 (sc 7 (sc 8 sn))))
 clear f10 a10 f11
 refine f12.splitD 8 rfl (fun h0 f13 => ?_) (fun h0 f13 => ?_)
 ·refine C.condT f13 rfl ?_
  refine wp_seq_k fun K5 hK5 => ?_
  have hq := hq1 (by assumption)
  have hd4 : Kept [] w1 (w1.drewN 1) := (Kept.refl _ _).drewN 1
  refine R.beginT (S := fun W => (Kept [] w W) ∧ (Blk W g0 34 (p.cells s))) (by kernel_rfl) (by kernel_rfl) ⟨HK.z hd4, Bg0.z hd4⟩ fun ht => ?_
  obtain ⟨w2, hww2⟩ : ∃ W, W = w1.drewN 1 := ⟨_, rfl⟩
  rw [← hww2] at hd4 ⊢
  clear f12 hww2
  have szw2 := hd4.size
  replace HK := HK.z hd4
  replace F0 := F0.kept0 hd4
  replace Bg0 := Bg0.z hd4
  clear hd4
  refine R.u 1 f13 rfl ht ⟨HK, Bg0⟩ (fun W hW => (E.fa 7 f13 U34 rfl wsz3_wc)) fun a14 f14 => ?_
  refine R.u 2 f14 rfl ht ⟨HK, Bg0⟩ (fun W hW => (E.ld f14 U3 (hW.2))) fun a15 f15 => ?_
  refine R.u 3 f15 rfl ht ⟨HK, Bg0⟩ (fun W hW => (E.conv f15 U3 U5 rfl (wrap_u8 _))) fun a16 f16 => ?_
  refine R.u 4 f16 rfl ht ⟨HK, Bg0⟩ (fun W hW => (E.fa 9 f16 U34 rfl wsz4_wc)) fun a17 f17 => ?_
  refine R.u 5 f17 rfl ht ⟨HK, Bg0⟩ (fun W hW => (E.ld f17 U4 (hW.2))) fun a18 f18 => ?_
  refine R.u 7 f18 rfl ht ⟨HK, Bg0⟩ (fun W hW => (E.fa 11 f18 U34 rfl wsz4_wc)) fun a19 f19 => ?_
  refine R.u 8 f19 rfl ht ⟨HK, Bg0⟩ (fun W hW => (E.ld f19 U4 (hW.2))) fun a20 f20 => ?_
  clear f13 a11 f14 a14 f15 a15 f16 a16 f17 a17 f18 a18 f19 a19
  refine R.u 11 f20 rfl ht ⟨HK, Bg0⟩ (fun W hW => (E.fa 12 f20 U34 rfl wsz30_wc)) fun a21 f21 => ?_
  refine R.u 12 f21 rfl ht ⟨HK, Bg0⟩ (fun W hW => (E.fa 2 f21 U30 rfl wsz3_wc)) fun a22 f22 => ?_
  refine R.u 13 f22 rfl ht ⟨HK, Bg0⟩ (fun W hW => (E.ld f22 U3 (hW.2))) fun a23 f23 => ?_
  refine R.u 14 f23 rfl ht ⟨HK, Bg0⟩ (fun W hW => (E.mul f23 rfl rfl (IntWalk.i64_in _ (by omega)))) fun a24 f24 => ?_
  refine R.u 16 f24 rfl ht ⟨HK, Bg0⟩ (fun W hW => (E.fa 12 f24 U34 rfl wsz30_wc)) fun a25 f25 => ?_
  refine R.u 17 f25 rfl ht ⟨HK, Bg0⟩ (fun W hW => (E.fa 3 f25 U30 rfl wsz4_wc)) fun a26 f26 => ?_
  refine R.u 18 f26 rfl ht ⟨HK, Bg0⟩ (fun W hW => (E.ld f26 U4 (hW.2))) fun a27 f27 => ?_
  clear f20 a20 f21 a21 f22 a22 f23 a23 f24 a24 f25 a25 f26 a26
  refine R.u 21 f27 rfl ht ⟨HK, Bg0⟩ (fun W hW => (E.fa 17 f27 U34 rfl wsz4_wc)) fun a28 f28 => ?_
  refine R.u 22 f28 rfl ht ⟨HK, Bg0⟩ (fun W hW => (E.ld f28 U4 (hW.2))) fun a29 f29 => ?_
  refine R.u 25 f29 rfl ht ⟨HK, Bg0⟩ (fun W hW => (E.fa 16 f29 U34 rfl wsz4_wc)) fun a30 f30 => ?_
  refine R.u 26 f30 rfl ht ⟨HK, Bg0⟩ (fun W hW => (E.ld f30 U4 (hW.2))) fun a31 f31 => ?_
  have hC3 := fun b hb => lumpBR _ _ _ b w _ F0 HK.size (by (simp [lumpL_len, twoL_len, bytes_len, maxLen]; done)) hb
  refine R.call 0 f31 rfl rfl (by decide) (by kernel_rfl) wantedN (run_call Try.call47 (args2 f31 rfl rfl)) (hC3 _ (by decide)) ?_
  clear f27 a27 f28 a28 f29 a29 f30 a30
  rintro e w3 ⟨A3, c3, rfl, FN3, kc3⟩
  have szw3 := kc3.size
  replace HK := F0.rel HK kc3
  replace Bg0 := Bg0.kept kc3 (own_ne F0.own Bg0 (by decide))
  refine ⟨_, rfl, ⟨HK, Bg0⟩, fun a32 f32 => ?_⟩
  clear f31 a31 kc3
  clear F0 hC3
  refine R.call 6 f32 rfl rfl (by decide) (by kernel_rfl) wantedN (run_call Try.call48 (args2 f32 rfl rfl)) (bit_any _ _ _) ?_
  rintro e w3x ⟨rfl, rfl⟩
  refine ⟨_, rfl, ⟨HK, Bg0⟩, fun a33 f33 => ?_⟩
  refine R.call 9 f33 rfl rfl (by decide) (by kernel_rfl) wantedN (run_call Try.call48 (args2 f33 rfl rfl)) (bit_any _ _ _) ?_
  clear f32 a32
  rintro e w3x ⟨rfl, rfl⟩
  refine ⟨_, rfl, ⟨HK, Bg0⟩, fun a34 f34 => ?_⟩
  refine R.u 10 f34 rfl ht ⟨HK, Bg0⟩ (fun W hW => (E.add f34 rfl rfl (IntWalk.i64_in _ (by omega)))) fun a35 f35 => ?_
  refine R.u 15 f35 rfl ht ⟨HK, Bg0⟩ (fun W hW => (E.add f35 rfl rfl (IntWalk.i64_in _ (by omega)))) fun a36 f36 => ?_
  refine R.call 19 f36 rfl rfl (by decide) (by kernel_rfl) wantedN (run_call Try.call48 (args2 f36 rfl rfl)) (bit_any _ _ _) ?_
  clear f33 a33 f34 a34 f35 a35
  rintro e w3x ⟨rfl, rfl⟩
  refine ⟨_, rfl, ⟨HK, Bg0⟩, fun a37 f37 => ?_⟩
  refine R.u 20 f37 rfl ht ⟨HK, Bg0⟩ (fun W hW => (E.add f37 rfl rfl (IntWalk.i64_in _ (by omega)))) fun a38 f38 => ?_
  refine R.call 23 f38 rfl rfl (by decide) (by kernel_rfl) wantedN (run_call Try.call48 (args2 f38 rfl rfl)) (bit_any _ _ _) ?_
  clear f36 a36 f37 a37
  rintro e w3x ⟨rfl, rfl⟩
  refine ⟨_, rfl, ⟨HK, Bg0⟩, fun a39 f39 => ?_⟩
  refine R.u 24 f39 rfl ht ⟨HK, Bg0⟩ (fun W hW => (E.add f39 rfl rfl (IntWalk.i64_in _ (by omega)))) fun a40 f40 => ?_
  refine R.call 27 f40 rfl rfl (by decide) (by kernel_rfl) wantedN (run_call Try.call48 (args2 f40 rfl rfl)) (bit_any _ _ _) ?_
  clear f38 a38 f39 a39
  rintro e w3x ⟨rfl, rfl⟩
  refine ⟨_, rfl, ⟨HK, Bg0⟩, fun a41 f41 => ?_⟩
  refine R.u 28 f41 rfl ht ⟨HK, Bg0⟩ (fun W hW => (E.add f41 rfl rfl (IntWalk.i64_in _ (by omega)))) fun a42 f42 => ?_
  refine R.u 29 f42 rfl ht ⟨HK, Bg0⟩ (fun W hW => (E.conv f42 U3 U5 rfl (wrap_u8 _))) fun a43 f43 => ?_
  refine R.one 30 (by kernel_rfl) ?_
  refine O.buildSlice f43 rfl wantedN (by decide) (parts2 f43 rfl rfl) U28 wzi5_wc rfl rfl (wbs28_2_wc _ _) (fun _ hk => ⟨HK.z hk, Bg0.z hk⟩) fun a44 w4 g3 N3 hSn f44 => ?_
  clear f40 a40 f41 a41 f42 a42 hSn
  have Bg3 := N3.blk
  have kg3 := N3.kept
  have log3 := N3.lo
  have ltg3 := Bg3.lt
  have szw4 := kg3.size
  have frg3 : w.heap.size ≤ g3 := Nat.le_trans HK.size log3
  have neg0_g3 : g0 ≠ g3 := by have := Bg0.lt; omega
  replace HK := HK.z kg3
  replace Bg0 := Bg0.z kg3
  replace FN3 := FN3.kept0 kg3
  clear N3 kg3
  refine R.one 31 (by kernel_rfl) ?_
  refine O.append f44 rfl wantedN (by decide) U28 wzib5_wc rfl rfl rfl rfl FN3.own (Blk.sl1 Bg3 rfl) (by intro u hu; simp at hu; rcases hu with rfl | rfl <;> rfl) (by (simp [lumpL_len, twoL_len, bytes_len, maxLen]; done)) (by (simp [lumpL_len, twoL_len, bytes_len, maxLen]; done)) fun a45 w5 A5 c5 AP5 => ?_
  have FN5 := AP5.nextB FN3 HK.size ([b8 p.level, b8 (flagsI p)]) (by simp [u8_b8, flagsI, Int.mul_comm]) (by simp)
  have kap5 := AP5.kept
  have szw5 := kap5.size
  replace HK := FN3.rel HK kap5
  replace Bg0 := Bg0.kept kap5 (own_ne FN3.own Bg0 (by decide))
  refine ⟨⟨HK, Bg0⟩, fun f45 => ?_⟩
  clear f43 a43 f44 a44 kap5 AP5 FN3
  have f46 := f45.as (i := 41) rfl (sl_lenF FN5 (by simp))
  refine R.u 32 f46 rfl ht ⟨HK, Bg0⟩ (fun W hW => (E.assign f46 rfl)) fun a47 f47 => ?_
  refine R.done (by kernel_rfl) (hK5 _ _ ?_)
  have f48 := f47.sub (sc 1 (sc 3 sn))
  obtain ⟨J6, hJ6⟩ : ∃ J : Act → World → Prop, J = fun a W => ∃ (A : Option Addr) (c : Nat) (l : List UInt8), l ++ ((if p.hasWill then lumpL p.wt.toList ++ lumpL p.wp else []) ++ ((if p.hasUser then lumpL p.user.toList else []) ++ (if p.hasPass then lumpL p.pass else []))) = connL p ∧ Kept [] w W ∧ Blk W g0 34 (p.cells s) ∧ FB w W A c l ∧ Fr 157 a [(1, .pointer (some ⟨g0, 0, none⟩)), (3, .slice A l.length c)] := ⟨_, rfl⟩
  clear f45 f46 a45 f47
  refine C.cut J6 ?_ ?_
  ·skip
   have hd5 : Kept [] w5 (w5.drewN 1) := (Kept.refl _ _).drewN 1
   refine R.beginT (S := fun W => (Kept [] w W) ∧ (Blk W g0 34 (p.cells s))) (by kernel_rfl) (by kernel_rfl) ⟨HK.z hd5, Bg0.z hd5⟩ fun ht => ?_
   obtain ⟨w6, hww6⟩ : ∃ W, W = w5.drewN 1 := ⟨_, rfl⟩
   rw [← hww6] at hd5 ⊢
   clear hww6
   have szw6 := hd5.size
   replace HK := HK.z hd5
   replace Bg0 := Bg0.z hd5
   replace FN5 := FN5.kept0 hd5
   clear hd5
   refine R.u 0 f48 rfl ht ⟨HK, Bg0⟩ (fun W hW => (E.move f48 rfl)) fun a49 f49 => ?_
   refine R.u 1 f49 rfl ht ⟨HK, Bg0⟩ (fun W hW => (E.fa 10 f49 U34 rfl wsz3_wc)) fun a50 f50 => ?_
   refine R.u 2 f50 rfl ht ⟨HK, Bg0⟩ (fun W hW => (E.ld f50 U3 (hW.2))) fun a51 f51 => ?_
   refine R.u 4 f51 rfl ht ⟨HK, Bg0⟩ (fun W hW => (E.fa 8 f51 U34 rfl wsz9_wc)) fun a52 f52 => ?_
   refine R.u 5 f52 rfl ht ⟨HK, Bg0⟩ (fun W hW => (E.ld f52 U9 (hW.2))) fun a53 f53 => ?_
   have hC7 := fun n => twoBR _ _ _ n w _ FN5 HK.size (by (simp [lumpL_len, twoL_len, bytes_len, maxLen]; done))
   refine R.call 3 f53 rfl rfl (by decide) (by kernel_rfl) wantedN (run_call Try.call49 (args2 f53 rfl rfl)) (hC7 _) ?_
   clear f48 a47 f49 a49 f50 a50 f51 a51 f52 a52
   rintro e w7 ⟨A7, c7, rfl, FN7, kc7⟩
   have szw7 := kc7.size
   replace HK := FN5.rel HK kc7
   replace Bg0 := Bg0.kept kc7 (own_ne FN5.own Bg0 (by decide))
   refine ⟨_, rfl, ⟨HK, Bg0⟩, fun a54 f54 => ?_⟩
   clear f53 a53 kc7
   clear FN5 hC7
   have hC8 := fun b hb => lumpBR _ _ _ b w _ FN7 HK.size (by (simp [lumpL_len, twoL_len, bytes_len, maxLen]; done)) hb
   refine R.call 6 f54 rfl rfl (by decide) (by kernel_rfl) wantedN (run_call Try.call47 (args2 f54 rfl rfl)) (hC8 _ (by omega)) ?_
   rintro e w8 ⟨A8, c8, rfl, FN8, kc8⟩
   have szw8 := kc8.size
   replace HK := FN7.rel HK kc8
   replace Bg0 := Bg0.kept kc8 (own_ne FN7.own Bg0 (by decide))
   refine ⟨_, rfl, ⟨HK, Bg0⟩, fun a55 f55 => ?_⟩
   clear f54 a54 kc8
   clear FN7 hC8
   refine R.u 7 f55 rfl ht ⟨HK, Bg0⟩ (fun W hW => (E.assign f55 rfl)) fun a56 f56 => ?_
   exact R.done (by kernel_rfl) (jn J6 (by rw [hJ6]; exact ⟨_, _, _, by rw [connL_eq]; simp, HK, Bg0, FN8, f56.sub (sr rfl (sr rfl sn))⟩))
  intro a49 w6 hj
  rw [hJ6] at hj
  clear hJ6 J6
  obtain ⟨AB, cB, lb, hq, HK, Bg0, FL, f49⟩ := hj
  try clear f48
  have hll := FB.short FL hq hBLc
  obtain ⟨J8, hJ8⟩ : ∃ J : Act → World → Prop, J = fun a W => ∃ (A : Option Addr) (c : Nat) (l : List UInt8), l ++ ((if p.hasUser then lumpL p.user.toList else []) ++ (if p.hasPass then lumpL p.pass else [])) = connL p ∧ Kept [] w W ∧ Blk W g0 34 (p.cells s) ∧ FB w W A c l ∧ Fr 157 a [(1, .pointer (some ⟨g0, 0, none⟩)), (3, .slice A l.length c)] := ⟨_, rfl⟩
  refine C.cut J8 ?_ ?_
  ·skip
   refine C.sk fun K6 hK6 => ?_
   refine L.fa 11 f49 U34 rfl wsz4_wc fun a50 f50 => ?_
   refine L.ld f50 U4 Bg0 fun a51 f51 => ?_
   refine wpList_nil (hK6 _ _ ?_)
   have f52 := f51.sub (sc 1 (sc 3 (sc 50 sn)))
   clear f49 a49 f50 a50 f51
   refine f52.split 50 rfl (fun h1 f53 => ?_) (fun h1 f53 => ?_)
   ·have hw50 := h1
    refine C.condT f53 rfl ?_
    have hd7 : Kept [] w6 (w6.drewN 1) := (Kept.refl _ _).drewN 1
    refine R.beginT (S := fun W => (Kept [] w W) ∧ (Blk W g0 34 (p.cells s))) (by kernel_rfl) (by kernel_rfl) ⟨HK.z hd7, Bg0.z hd7⟩ fun ht => ?_
    obtain ⟨w7, hww7⟩ : ∃ W, W = w6.drewN 1 := ⟨_, rfl⟩
    rw [← hww7] at hd7 ⊢
    clear f52 hww7
    have szw7 := hd7.size
    replace HK := HK.z hd7
    replace Bg0 := Bg0.z hd7
    replace FL := FL.kept0 hd7
    clear hd7
    refine R.u 0 f53 rfl ht ⟨HK, Bg0⟩ (fun W hW => (E.move f53 rfl)) fun a54 f54 => ?_
    refine R.u 1 f54 rfl ht ⟨HK, Bg0⟩ (fun W hW => (E.fa 12 f54 U34 rfl wsz30_wc)) fun a55 f55 => ?_
    refine R.u 2 f55 rfl ht ⟨HK, Bg0⟩ (fun W hW => (E.fa 0 f55 U30 rfl wsz9_wc)) fun a56 f56 => ?_
    refine R.u 3 f56 rfl ht ⟨HK, Bg0⟩ (fun W hW => (E.ld f56 U9 (hW.2))) fun a57 f57 => ?_
    refine R.u 5 f57 rfl ht ⟨HK, Bg0⟩ (fun W hW => (E.fa 12 f57 U34 rfl wsz30_wc)) fun a58 f58 => ?_
    refine R.u 6 f58 rfl ht ⟨HK, Bg0⟩ (fun W hW => (E.fa 1 f58 U30 rfl wsz28_wc)) fun a59 f59 => ?_
    refine R.u 7 f59 rfl ht ⟨HK, Bg0⟩ (fun W hW => (E.ld f59 U28 (hW.2))) fun a60 f60 => ?_
    clear f53 a51 f54 a54 f55 a55 f56 a56 f57 a57 f58 a58 f59 a59
    refine R.u 8 f60 rfl ht ⟨HK, Bg0⟩ (fun W hW => (E.toStr f60 rfl U28 U5 U9 (IP.wp.kept hW.1))) fun a61 f61 => ?_
    have hC8 := fun b hb => lumpBR _ _ _ b w _ FL HK.size (by omega) hb
    refine R.call 4 f61 rfl rfl (by decide) (by kernel_rfl) wantedN (run_call Try.call47 (args2 f61 rfl rfl)) (hC8 _ (by omega)) ?_
    clear f60 a60
    rintro e w8 ⟨A8, c8, rfl, FN8, kc8⟩
    have szw8 := kc8.size
    replace HK := FL.rel HK kc8
    replace Bg0 := Bg0.kept kc8 (own_ne FL.own Bg0 (by decide))
    refine ⟨_, rfl, ⟨HK, Bg0⟩, fun a62 f62 => ?_⟩
    clear f61 a61 kc8
    clear FL hC8
    have hC9 := fun b hb => lumpBR _ _ _ b w _ FN8 HK.size (by (simp [lumpL_len, twoL_len, bytes_len, maxLen]; omega)) hb
    refine R.call 9 f62 rfl rfl (by decide) (by kernel_rfl) wantedN (run_call Try.call47 (args2 f62 rfl rfl)) (hC9 _ (by simpa [bytes_arr] using L2)) ?_
    rintro e w9 ⟨A9, c9, rfl, FN9, kc9⟩
    have szw9 := kc9.size
    replace HK := FN8.rel HK kc9
    replace Bg0 := Bg0.kept kc9 (own_ne FN8.own Bg0 (by decide))
    refine ⟨_, rfl, ⟨HK, Bg0⟩, fun a63 f63 => ?_⟩
    clear f62 a62 kc9
    clear FN8 hC9
    refine R.u 10 f63 rfl ht ⟨HK, Bg0⟩ (fun W hW => (E.assign f63 rfl)) fun a64 f64 => ?_
    exact R.done (by kernel_rfl) (jn J8 (by rw [hJ8]; exact ⟨_, _, _, by rw [← hq]; simp [hw50], HK, Bg0, FN9, f64.sub (sr rfl (sr rfl sn))⟩))
   have hw50 := h1
   refine C.condF f53 rfl ?_
   exact wp_skip (jn J8 (by rw [hJ8]; exact ⟨_, _, _, by rw [← hq]; simp [hw50], HK, Bg0, FL, f53.sub (sr rfl (sr rfl sn))⟩))
  intro a50 w7 hj
  rw [hJ8] at hj
  clear hJ8 J8
  obtain ⟨AB, cB, lb, hq, HK, Bg0, FL, f50⟩ := hj
  try clear f49
  have hll := FB.short FL hq hBLc
  obtain ⟨J10, hJ10⟩ : ∃ J : Act → World → Prop, J = fun a W => ∃ (A : Option Addr) (c : Nat) (l : List UInt8), l ++ ((if p.hasPass then lumpL p.pass else [])) = connL p ∧ Kept [] w W ∧ Blk W g0 34 (p.cells s) ∧ FB w W A c l ∧ Fr 157 a [(1, .pointer (some ⟨g0, 0, none⟩)), (3, .slice A l.length c)] := ⟨_, rfl⟩
  refine C.cut J10 ?_ ?_
  ·skip
   refine C.sk fun K7 hK7 => ?_
   refine L.fa 16 f50 U34 rfl wsz4_wc fun a51 f51 => ?_
   refine L.ld f51 U4 Bg0 fun a52 f52 => ?_
   refine wpList_nil (hK7 _ _ ?_)
   have f53 := f52.sub (sc 1 (sc 3 (sc 62 sn)))
   clear f50 a50 f51 a51 f52
   refine f53.split 62 rfl (fun h2 f54 => ?_) (fun h2 f54 => ?_)
   ·have hw62 := h2
    refine C.condT f54 rfl ?_
    refine C.region ?_
    refine L.mv f54 fun a55 f55 => ?_
    refine L.fa 18 f55 U34 rfl wsz9_wc fun a56 f56 => ?_
    refine L.ld f56 U9 Bg0 fun a57 f57 => ?_
    have hC8 := fun b hb => lumpBR _ _ _ b w _ FL HK.size (by omega) hb
    refine L.cl f57 (run_call Try.call47 (args2 f57 rfl rfl)) (hC8 _ (by omega)) ?_
    clear f53 f54 a52 f55 a55 f56 a56
    rintro e w8 ⟨A8, c8, rfl, FN8, kc8⟩
    refine ⟨_, rfl, fun a58 f58 => ?_⟩
    have szw8 := kc8.size
    replace HK := FL.rel HK kc8
    replace Bg0 := Bg0.kept kc8 (own_ne FL.own Bg0 (by decide))
    clear f57 a57 kc8
    clear FL hC8
    refine L.ag f58 fun a59 f59 => ?_
    exact wpList_nil (jn J10 (by rw [hJ10]; exact ⟨_, _, _, by rw [← hq]; simp [hw62], HK, Bg0, FN8, f59.sub (sr rfl (sr rfl sn))⟩))
   have hw62 := h2
   refine C.condF f54 rfl ?_
   exact wp_skip (jn J10 (by rw [hJ10]; exact ⟨_, _, _, by rw [← hq]; simp [hw62], HK, Bg0, FL, f54.sub (sr rfl (sr rfl sn))⟩))
  intro a51 w8 hj
  rw [hJ10] at hj
  clear hJ10 J10
  obtain ⟨AB, cB, lb, hq, HK, Bg0, FL, f51⟩ := hj
  try clear f50
  have hll := FB.short FL hq hBLc
  refine wp_seq_k fun K8 hK8 => ?_
  refine C.sk fun K9 hK9 => ?_
  refine L.fa 17 f51 U34 rfl wsz4_wc fun a52 f52 => ?_
  refine L.ld f52 U4 Bg0 fun a53 f53 => ?_
  refine wpList_nil (hK9 _ _ ?_)
  have f54 := f53.sub (sc 1 (sc 3 (sc 68 sn)))
  clear f51 a51 f52 a52 f53
  refine f54.split 68 rfl (fun h3 f55 => ?_) (fun h3 f55 => ?_)
  ·have hw68 := h3
   refine C.condT f55 rfl ?_
   refine C.region ?_
   refine L.mv f55 fun a56 f56 => ?_
   refine L.fa 19 f56 U34 rfl wsz28_wc fun a57 f57 => ?_
   refine L.ld f57 U28 Bg0 fun a58 f58 => ?_
   refine L.va f58 (E.toStr f58 rfl U28 U5 U9 (IP.pass.kept HK)) fun a59 f59 => ?_
   have hC9 := fun b hb => lumpBR _ _ _ b w _ FL HK.size (by omega) hb
   refine L.cl f59 (run_call Try.call47 (args2 f59 rfl rfl)) (hC9 _ (by simpa [bytes_arr] using L3)) ?_
   clear f54 f55 a53 f56 a56 f57 a57 f58 a58
   rintro e w9 ⟨A9, c9, rfl, FN9, kc9⟩
   refine ⟨_, rfl, fun a60 f60 => ?_⟩
   have szw9 := kc9.size
   replace HK := FL.rel HK kc9
   replace Bg0 := Bg0.kept kc9 (own_ne FL.own Bg0 (by decide))
   clear f59 a59 kc9
   clear FL hC9
   refine L.ag f60 fun a61 f61 => ?_
   have f62 := f61.sub (sc 3 sn)
   refine wpList_nil (hK8 _ _ (C.sk fun K10 hK10 => ?_))
   refine L.mv f62 fun a63 f63 => ?_
   refine L.ag f63 fun a64 f64 => ?_
   have f65 := f64.sub (sc 2 sn)
   refine wpList_nil (hK10 _ _ (wp_ret ?_)); (try simp only [xt, xb]); refine C.ret f65 rfl rfl ?_
   exact NewB.of HK FN9 (by rw [show bodyR p = connL p by simp [bodyR, *], ← hq]; simp [hw68])
  have hw68 := h3
  refine C.condF f55 rfl ?_
  refine wp_skip (hK8 _ _ ?_)
  have f56 := f55.sub (sc 3 sn)
  refine C.sk fun K11 hK11 => ?_
  refine L.mv f56 fun a57 f57 => ?_
  refine L.ag f57 fun a58 f58 => ?_
  have f59 := f58.sub (sc 2 sn)
  refine wpList_nil (hK11 _ _ (wp_ret ?_)); (try simp only [xt, xb]); refine C.ret f59 rfl rfl ?_
  exact NewB.of HK FL (by rw [show bodyR p = connL p by simp [bodyR, *], ← hq]; simp [hw68])
 refine C.condF f13 rfl ?_
 refine C.sk fun K12 hK12 => ?_
 refine L.va f13 (E.eq f13) fun a14 f14 => ?_
 refine L.ag f14 fun a15 f15 => ?_
 refine wpList_nil (hK12 _ _ ?_)
 have f16 := f15.sub (sc 1 (sc 3 (sc 7 (sc 75 sn))))
 clear f12 f13 a11 f14 a14 f15
 refine f16.splitD 75 rfl (fun h4 f17 => ?_) (fun h4 f17 => ?_)
 ·refine C.condT f17 rfl ?_
  refine wp_seq_k fun K13 hK13 => ?_
  have hd14 : Kept [] w1 (w1.drewN 1) := (Kept.refl _ _).drewN 1
  refine R.beginT (S := fun W => (Kept [] w W) ∧ (Blk W g0 34 (p.cells s))) (by kernel_rfl) (by kernel_rfl) ⟨HK.z hd14, Bg0.z hd14⟩ fun ht => ?_
  obtain ⟨w2, hww2⟩ : ∃ W, W = w1.drewN 1 := ⟨_, rfl⟩
  rw [← hww2] at hd14 ⊢
  clear f16 hww2
  have szw2 := hd14.size
  replace HK := HK.z hd14
  replace F0 := F0.kept0 hd14
  replace Bg0 := Bg0.z hd14
  clear hd14
  refine R.u 0 f17 rfl ht ⟨HK, Bg0⟩ (fun W hW => (E.move f17 rfl)) fun a18 f18 => ?_
  refine R.u 1 f18 rfl ht ⟨HK, Bg0⟩ (fun W hW => (E.fa 20 f18 U34 rfl wsz4_wc)) fun a19 f19 => ?_
  refine R.u 2 f19 rfl ht ⟨HK, Bg0⟩ (fun W hW => (E.ld f19 U4 (hW.2))) fun a20 f20 => ?_
  refine R.u 5 f20 rfl ht ⟨HK, Bg0⟩ (fun W hW => (E.fa 21 f20 U34 rfl wsz3_wc)) fun a21 f21 => ?_
  refine R.u 6 f21 rfl ht ⟨HK, Bg0⟩ (fun W hW => (E.ld f21 U3 (hW.2))) fun a22 f22 => ?_
  refine R.u 7 f22 rfl ht ⟨HK, Bg0⟩ (fun W hW => (E.conv f22 U3 U5 rfl (wrap_u8 _))) fun a23 f23 => ?_
  refine R.call 3 f23 rfl rfl (by decide) (by kernel_rfl) wantedN (run_call Try.call48 (args2 f23 rfl rfl)) (bit_any _ _ _) ?_
  clear f17 a15 f18 a18 f19 a19 f20 a20 f21 a21 f22 a22
  rintro e w2x ⟨rfl, rfl⟩
  refine ⟨_, rfl, ⟨HK, Bg0⟩, fun a24 f24 => ?_⟩
  refine R.u 4 f24 rfl ht ⟨HK, Bg0⟩ (fun W hW => (E.conv f24 U3 U5 rfl (wrap_u8 _))) fun a25 f25 => ?_
  refine R.one 8 (by kernel_rfl) ?_
  refine O.buildSlice f25 rfl wantedN (by decide) (parts2 f25 rfl rfl) U28 wzi5_wc rfl rfl (wbs28_2_wc _ _) (fun _ hk => ⟨HK.z hk, Bg0.z hk⟩) fun a26 w3 g2 N2 hSn f26 => ?_
  clear f23 a23 f24 a24 hSn
  have Bg2 := N2.blk
  have kg2 := N2.kept
  have log2 := N2.lo
  have ltg2 := Bg2.lt
  have szw3 := kg2.size
  have frg2 : w.heap.size ≤ g2 := Nat.le_trans HK.size log2
  have neg0_g2 : g0 ≠ g2 := by have := Bg0.lt; omega
  replace HK := HK.z kg2
  replace F0 := F0.kept0 kg2
  replace Bg0 := Bg0.z kg2
  clear N2 kg2
  refine R.one 9 (by kernel_rfl) ?_
  refine O.append f26 rfl wantedN (by decide) U28 wzib5_wc rfl rfl rfl rfl F0.own (Blk.sl1 Bg2 rfl) (by intro u hu; simp at hu; rcases hu with rfl | rfl <;> rfl) (by (simp [lumpL_len, twoL_len, bytes_len, maxLen]; done)) (by omega) fun a27 w4 A4 c4 AP4 => ?_
  have FN4 := AP4.nextB F0 HK.size ([b8 (flg p.present 1), b8 p.code]) (by simp [u8_b8]) (by simp)
  have kap4 := AP4.kept
  have szw4 := kap4.size
  replace HK := F0.rel HK kap4
  replace Bg0 := Bg0.kept kap4 (own_ne F0.own Bg0 (by decide))
  refine ⟨⟨HK, Bg0⟩, fun f27 => ?_⟩
  clear f25 a25 f26 a26 kap4 AP4 F0
  have f28 := f27.as (i := 86) rfl (sl_lenF FN4 (by simp))
  refine R.u 10 f28 rfl ht ⟨HK, Bg0⟩ (fun W hW => (E.assign f28 rfl)) fun a29 f29 => ?_
  refine R.done (by kernel_rfl) (hK13 _ _ ?_)
  have f30 := f29.sub (sc 2 sn)
  refine wp_ret ?_; (try simp only [xt, xb]); refine C.ret f30 rfl rfl ?_
  exact NewB.of HK FN4 (by simp [bodyR, connL, *])
 refine C.condF f17 rfl ?_
 refine C.sk fun K14 hK14 => ?_
 refine L.va f17 (E.eq f17) fun a18 f18 => ?_
 refine L.ag f18 fun a19 f19 => ?_
 refine wpList_nil (hK14 _ _ ?_)
 have f20 := f19.sub (sc 1 (sc 3 (sc 7 (sc 87 sn))))
 clear f16 f17 a15 f18 a18 f19
 refine f20.splitD 87 rfl (fun h5 f21 => ?_) (fun h5 f21 => ?_)
 ·refine C.condT f21 rfl ?_
  refine C.sk fun K15 hK15 => ?_
  refine L.mv f21 fun a22 f22 => ?_
  refine L.fa 5 f22 U34 rfl wsz9_wc fun a23 f23 => ?_
  refine L.ld f23 U9 Bg0 fun a24 f24 => ?_
  have hC2 := fun b hb => lumpBR _ _ _ b w _ F0 HK.size (by (simp [lumpL_len, twoL_len, bytes_len, maxLen]; done)) hb
  refine L.cl f24 (run_call Try.call47 (args2 f24 rfl rfl)) (hC2 _ (by omega)) ?_
  clear f20 f21 a19 f22 a22 f23 a23
  rintro e w2 ⟨A2, c2, rfl, FN2, kc2⟩
  refine ⟨_, rfl, fun a25 f25 => ?_⟩
  have szw2 := kc2.size
  replace HK := F0.rel HK kc2
  replace Bg0 := Bg0.kept kc2 (own_ne F0.own Bg0 (by decide))
  clear f24 a24 kc2
  clear F0 hC2
  refine L.ag f25 fun a26 f26 => ?_
  refine wpList_nil (hK15 _ _ ?_)
  have f27 := f26.sub (sc 1 (sc 3 sn))
  refine wp_seq_k fun K16 hK16 => ?_
  refine C.sk fun K17 hK17 => ?_
  refine L.fa 3 f27 U34 rfl wsz3_wc fun a28 f28 => ?_
  refine L.ld f28 U3 Bg0 fun a29 f29 => ?_
  refine L.va f29 (E.gtr f29 rfl rfl) fun a30 f30 => ?_
  refine wpList_nil (hK17 _ _ ?_)
  have f31 := f30.sub (sc 1 (sc 3 (sc 95 sn)))
  clear f25 a25 f26 f27 a26 f28 a28 f29 a29 f30
  refine f31.splitD 95 rfl (fun h6 f32 => ?_) (fun h6 f32 => ?_)
  ·refine C.condT f32 rfl ?_
   refine C.region ?_
   refine L.mv f32 fun a33 f33 => ?_
   refine L.fa 4 f33 U34 rfl wsz3_wc fun a34 f34 => ?_
   refine L.ld f34 U3 Bg0 fun a35 f35 => ?_
   have hC3 := fun n => twoBR _ _ _ n w _ FN2 HK.size (by (simp [lumpL_len, twoL_len, bytes_len, maxLen]; omega))
   refine L.cl f35 (run_call Try.call49 (args2 f35 rfl rfl)) (hC3 _) ?_
   clear f31 f32 a30 f33 a33 f34 a34
   rintro e w3 ⟨A3, c3, rfl, FN3, kc3⟩
   refine ⟨_, rfl, fun a36 f36 => ?_⟩
   have szw3 := kc3.size
   replace HK := FN2.rel HK kc3
   replace Bg0 := Bg0.kept kc3 (own_ne FN2.own Bg0 (by decide))
   clear f35 a35 kc3
   clear FN2 hC3
   refine L.ag f36 fun a37 f37 => ?_
   have f38 := f37.sub (sc 1 (sc 3 sn))
   refine wpList_nil (hK16 _ _ (C.sk fun K18 hK18 => ?_))
   refine L.mv f38 fun a39 f39 => ?_
   refine L.fa 6 f39 U34 rfl wsz28_wc fun a40 f40 => ?_
   refine L.ld f40 U28 Bg0 fun a41 f41 => ?_
   refine L.append f41 wantedN (by decide) U28 wzib5_wc rfl rfl rfl rfl FN3.own (IP.pay.kept HK) (u8_one) (by (simp [lumpL_len, twoL_len, bytes_len, maxLen]; omega)) (by (simp [lumpL_len, twoL_len, bytes_len, maxLen]; omega)) fun a42 w4 A4 c4 AP4 f42 => ?_
   have FN4 := AP4.nextB FN3 HK.size (p.pay) (rfl) (rfl)
   have kap4 := AP4.kept
   have szw4 := kap4.size
   replace HK := FN3.rel HK kap4
   replace Bg0 := Bg0.kept kap4 (own_ne FN3.own Bg0 (by decide))
   clear f36 a36 f37 f38 a37 f39 a39 f40 a40 f41 a41 kap4 AP4 FN3
   have f43 := f42.as (i := 103) rfl (sl_lenF FN4 (rfl))
   refine L.ag f43 fun a44 f44 => ?_
   have f45 := f44.sub (sc 2 sn)
   refine wpList_nil (hK18 _ _ (wp_ret ?_)); (try simp only [xt, xb]); refine C.ret f45 rfl rfl ?_
   exact NewB.of HK FN4 (by simp [bodyR, connL, *])
  refine C.condF f32 rfl ?_
  refine wp_skip (hK16 _ _ ?_)
  have f33 := f32.sub (sc 1 (sc 3 sn))
  refine C.sk fun K19 hK19 => ?_
  refine L.mv f33 fun a34 f34 => ?_
  refine L.fa 6 f34 U34 rfl wsz28_wc fun a35 f35 => ?_
  refine L.ld f35 U28 Bg0 fun a36 f36 => ?_
  refine L.append f36 wantedN (by decide) U28 wzib5_wc rfl rfl rfl rfl FN2.own (IP.pay.kept HK) (u8_one) (by (simp [lumpL_len, twoL_len, bytes_len, maxLen]; omega)) (by (simp [lumpL_len, twoL_len, bytes_len, maxLen]; omega)) fun a37 w3 A3 c3 AP3 f37 => ?_
  have FN3 := AP3.nextB FN2 HK.size (p.pay) (rfl) (rfl)
  have kap3 := AP3.kept
  have szw3 := kap3.size
  replace HK := FN2.rel HK kap3
  replace Bg0 := Bg0.kept kap3 (own_ne FN2.own Bg0 (by decide))
  clear f31 f32 f33 a30 f34 a34 f35 a35 f36 a36 kap3 AP3 FN2
  have f38 := f37.as (i := 103) rfl (sl_lenF FN3 (rfl))
  refine L.ag f38 fun a39 f39 => ?_
  have f40 := f39.sub (sc 2 sn)
  refine wpList_nil (hK19 _ _ (wp_ret ?_)); (try simp only [xt, xb]); refine C.ret f40 rfl rfl ?_
  exact NewB.of HK FN3 (by simp [bodyR, connL, *])
 refine C.condF f21 rfl ?_
 refine wp_seq_k fun K20 hK20 => ?_
 refine C.sk fun K21 hK21 => ?_
 refine L.va f21 (E.eq f21) fun a22 f22 => ?_
 refine L.ag f22 fun a23 f23 => ?_
 refine wpList_nil (hK21 _ _ ?_)
 have f24 := f23.sub (sc 1 (sc 3 (sc 7 (sc 104 sn))))
 clear f20 f21 a19 f22 a22 f23
 refine f24.splitD 104 rfl (fun h7 f25 => ?_) (fun h7 f25 => ?_)
 ·refine C.condT f25 rfl ?_
  refine wp_skip (hK20 _ _ ?_)
  have f26 := f25.sub (sc 1 (sc 3 (sc 104 sn)))
  refine C.condT f26 rfl ?_
  refine C.sk fun K22 hK22 => ?_
  refine L.ag f26 fun a27 f27 => ?_
  have f28 := f27.sub (sc 2 sn)
  refine wpList_nil (hK22 _ _ (wp_ret ?_)); (try simp only [xt, xb]); refine C.ret f28 rfl rfl ?_
  exact NewB.of HK F0 (by simp [bodyR, inB, *])
 refine C.condF f25 rfl ?_
 refine C.sk fun K23 hK23 => ?_
 refine L.va f25 (E.eq f25) fun a26 f26 => ?_
 refine L.ag f26 fun a27 f27 => ?_
 refine wpList_nil (hK23 _ _ ?_)
 have f28 := f27.sub (sc 1 (sc 3 (sc 7 (sc 104 sn))))
 clear f24 f25 a23 f26 a26 f27
 refine f28.splitD 104 rfl (fun h8 f29 => ?_) (fun h8 f29 => ?_)
 ·refine C.condT f29 rfl ?_
  refine wp_skip (hK20 _ _ ?_)
  have f30 := f29.sub (sc 1 (sc 3 (sc 104 sn)))
  refine C.condT f30 rfl ?_
  refine C.sk fun K24 hK24 => ?_
  refine L.ag f30 fun a31 f31 => ?_
  have f32 := f31.sub (sc 2 sn)
  refine wpList_nil (hK24 _ _ (wp_ret ?_)); (try simp only [xt, xb]); refine C.ret f32 rfl rfl ?_
  exact NewB.of HK F0 (by simp [bodyR, inB, *])
 refine C.condF f29 rfl ?_
 refine C.region ?_
 refine L.va f29 (E.eq f29) fun a30 f30 => ?_
 refine L.ag f30 fun a31 f31 => ?_
 refine wpList_nil (hK20 _ _ ?_)
 have f32 := f31.sub (sc 1 (sc 3 (sc 104 sn)))
 clear f28 f29 a27 f30 a30 f31
 refine f32.splitD 104 rfl (fun h9 f33 => ?_) (fun h9 f33 => ?_)
 ·refine C.condT f33 rfl ?_
  refine C.sk fun K25 hK25 => ?_
  refine L.ag f33 fun a34 f34 => ?_
  have f35 := f34.sub (sc 2 sn)
  refine wpList_nil (hK25 _ _ (wp_ret ?_)); (try simp only [xt, xb]); refine C.ret f35 rfl rfl ?_
  exact NewB.of HK F0 (by simp [bodyR, inB, *])
 refine C.condF f33 rfl ?_
 refine wp_skip (hK2 _ _ ?_)
 have f34 := f33.sub (sc 1 (sc 3 sn))
 refine C.sk fun K26 hK26 => ?_
 refine L.mv f34 fun a35 f35 => ?_
 refine L.fa 4 f35 U34 rfl wsz3_wc fun a36 f36 => ?_
 refine L.ld f36 U3 Bg0 fun a37 f37 => ?_
 have hC2 := fun n => twoBR _ _ _ n w _ F0 HK.size (by (simp [lumpL_len, twoL_len, bytes_len, maxLen]; done))
 refine L.cl f37 (run_call Try.call49 (args2 f37 rfl rfl)) (hC2 _) ?_
 clear f32 f33 f34 a31 f35 a35 f36 a36
 rintro e w2 ⟨A2, c2, rfl, FN2, kc2⟩
 refine ⟨_, rfl, fun a38 f38 => ?_⟩
 have szw2 := kc2.size
 replace HK := F0.rel HK kc2
 replace Bg0 := Bg0.kept kc2 (own_ne F0.own Bg0 (by decide))
 clear f37 a37 kc2
 clear F0 hC2
 refine L.ag f38 fun a39 f39 => ?_
 refine wpList_nil (hK26 _ _ ?_)
 have f40 := f39.sub (sc 1 (sc 3 sn))
 refine wp_seq_k fun K27 hK27 => ?_
 refine C.sk fun K28 hK28 => ?_
 refine L.ag f40 fun a41 f41 => ?_
 refine wpList_nil (hK28 _ _ ?_)
 have f42 := f41.sub (sc 1 (sc 3 (sc 4 sn)))
 refine wp_block ?_
 clear f38 a38 f39 f40 a39 f41
 refine C.loop (fun gk a W => ∃ (k : Nat) (A : Option Addr) (c : Nat) (l : List UInt8), k + gk = p.subs.length ∧ Kept [] w W ∧ Blk W g0 34 (p.cells s) ∧ FB w W A c l ∧ l ++ ((p.subs.drop k).flatMap (subL p.kind) ++ p.codes.map b8) = bodyR p ∧ Fr 157 a [(1, .pointer (some ⟨g0, 0, none⟩)), (3, .slice A l.length c), (4, .int .i64 k)]) (p.subs.length) ?_ ?_
 ·exact ⟨0, _, _, _, by omega, HK, Bg0, FN2, by rw [bodyR_else (by omega)]; simp, f42.sub (sr rfl (sr rfl (sr rfl sn)))⟩
 intro gk30 a43 w3 hI KL29 hKL29
 obtain ⟨k, A, c, l, hk, HK, Bg0, FL, hq, f43⟩ := hI
 try clear f42
 have hll := FB.short FL hq hBL
 have szL := HK.size
 refine wp_seq_k fun K30 hK30 => ?_
 refine C.sk fun K31 hK31 => ?_
 refine L.mv f43 fun a44 f44 => ?_
 refine L.fa 22 f44 U34 rfl wsz31_wc fun a45 f45 => ?_
 refine L.ld f45 U31 Bg0 fun a46 f46 => ?_
 refine L.va f46 (E.lenL f46 U31 rfl) fun a47 f47 => ?_
 refine L.va f47 (E.lss f47 rfl rfl) fun a48 f48 => ?_
 refine wpList_nil (hK31 _ _ ?_)
 have f49 := f48.sub (sc 1 (sc 3 (sc 4 (sc 116 sn))))
 clear f43 a43 f44 a44 f45 a45 f46 a46 f47 a47 f48
 refine f49.splitD 116 rfl (fun h10 f50 => ?_) (fun h10 f50 => ?_)
 ·obtain ⟨d, hd⟩ := some_at p.subs k (by omega)
  obtain ⟨bk, off, hA⟩ := IP.subs.addr (by omega)
  have hds := L10 d (List.mem_of_getElem? hd)
  refine C.condT f50 rfl ?_
  refine wp_skip (hK30 _ _ ?_)
  have f51 := f50.sub (sc 1 (sc 3 (sc 4 sn)))
  refine wp_seq_k fun K32 hK32 => ?_
  refine wp_block ?_
  refine C.sk fun K33 hK33 => ?_
  refine L.mv f51 fun a52 f52 => ?_
  refine L.fa 22 f52 U34 rfl wsz31_wc fun a53 f53 => ?_
  refine L.ld f53 U31 Bg0 fun a54 f54 => ?_
  refine L.mv f54 fun a55 f55 => ?_
  refine L.va f55 (E.indexA f55 (by assumption) U31 wsz46_wc rfl rfl (by omega) (by omega)) fun a56 f56 => ?_
  refine L.va f56 (E.fa 0 f56 Try.underlying46 rfl wsz9_wc) fun a57 f57 => ?_
  clear f49 f50 f51 a48 f52 a52 f53 a53 f54 a54 f55 a55 f56 a56
  refine L.va f57 (E.load f57 U9 rfl rfl (sub_cell0 (IP.subs.kept HK) hA hd)) fun a58 f58 => ?_
  have hC4 := fun b hb => lumpBR _ _ _ b w _ FL HK.size (by omega) hb
  refine L.cl f58 (run_call Try.call47 (args2 f58 rfl rfl)) (hC4 _ (by omega)) ?_
  clear f57 a57
  rintro e w4 ⟨A4, c4, rfl, FN4, kc4⟩
  refine ⟨_, rfl, fun a59 f59 => ?_⟩
  have szw4 := kc4.size
  replace HK := FL.rel HK kc4
  replace Bg0 := Bg0.kept kc4 (own_ne FL.own Bg0 (by decide))
  clear f58 a58 kc4
  clear FL hC4
  refine L.ag f59 fun a60 f60 => ?_
  have f61 := f60.sub (sc 1 (sc 3 (sc 4 sn)))
  refine wpList_nil (hK33 _ _ (C.sk fun K34 hK34 => ?_))
  refine L.fa 0 f61 U34 rfl wsz3_wc fun a62 f62 => ?_
  refine L.ld f62 U3 Bg0 fun a63 f63 => ?_
  refine L.va f63 (E.eq f63) fun a64 f64 => ?_
  refine wpList_nil (hK34 _ _ ?_)
  have f65 := f64.sub (sc 1 (sc 3 (sc 4 (sc 129 sn))))
  clear f59 a59 f60 f61 a60 f62 a62 f63 a63 f64
  refine f65.splitD 129 rfl (fun h11 f66 => ?_) (fun h11 f66 => ?_)
  ·refine C.condT f66 rfl ?_
   refine C.region ?_
   refine L.mv f66 fun a67 f67 => ?_
   refine L.fa 22 f67 U34 rfl wsz31_wc fun a68 f68 => ?_
   refine L.ld f68 U31 Bg0 fun a69 f69 => ?_
   refine L.mv f69 fun a70 f70 => ?_
   refine L.va f70 (E.indexA f70 (by assumption) U31 wsz46_wc rfl rfl (by omega) (by omega)) fun a71 f71 => ?_
   refine L.va f71 (E.fa 1 f71 Try.underlying46 rfl wsz3_wc) fun a72 f72 => ?_
   refine L.va f72 (E.load f72 U3 rfl rfl (sub_cell1 (IP.subs.kept HK) hA hd)) fun a73 f73 => ?_
   clear f65 f66 a64 f67 a67 f68 a68 f69 a69 f70 a70 f71 a71 f72 a72
   refine L.va f73 (E.conv f73 U3 U5 rfl (wrap_u8 _)) fun a74 f74 => ?_
   refine L.buildSlice f74 wantedN (by decide) (parts1 f74 rfl) U28 wzi5_wc rfl rfl (wbs28_1_wc _) fun a75 w5 g4 N4 f75 => ?_
   have Bg4 := N4.blk
   have kg4 := N4.kept
   have log4 := N4.lo
   have ltg4 := Bg4.lt
   have szw5 := kg4.size
   have frg4 : w.heap.size ≤ g4 := Nat.le_trans HK.size log4
   have neg0_g4 : g0 ≠ g4 := by have := Bg0.lt; omega
   replace HK := HK.z kg4
   replace Bg0 := Bg0.z kg4
   replace FN4 := FN4.kept0 kg4
   clear f73 a73 N4 kg4
   refine L.append f75 wantedN (by decide) U28 wzib5_wc rfl rfl rfl rfl FN4.own (Blk.sl1 Bg4 rfl) (by intro u hu; simp at hu; subst hu; rfl) (by (simp [lumpL_len, twoL_len, bytes_len, maxLen]; omega)) (by (simp [lumpL_len, twoL_len, bytes_len, maxLen]; omega)) fun a76 w6 A6 c6 AP6 f76 => ?_
   have FN6 := AP6.nextB FN4 HK.size ([b8 d.2]) (by simp [u8_b8]) (by simp)
   have kap6 := AP6.kept
   have szw6 := kap6.size
   replace HK := FN4.rel HK kap6
   replace Bg0 := Bg0.kept kap6 (own_ne FN4.own Bg0 (by decide))
   clear f74 a74 f75 a75 kap6 AP6 FN4
   have f77 := f76.as (i := 139) rfl (sl_lenF FN6 (by simp))
   refine L.ag f77 fun a78 f78 => ?_
   refine wpList_nil (hK32 _ _ ?_)
   have f79 := f78.sub (sc 1 (sc 3 (sc 4 sn)))
   refine C.region ?_
   refine L.mv f79 fun a80 f80 => ?_
   refine L.va f80 (E.add f80 rfl rfl (IntWalk.i64_in _ (by omega))) fun a81 f81 => ?_
   refine L.ag f81 fun a82 f82 => ?_
   clear f76 f77 a76 f78 f79 a78 f80 a80 f81 a81
   refine wpList_nil (hKL29 _ _ (gk30 - 1) ?_ ?_)
   ·omega
   exact ⟨k + 1, _, _, _, by omega, HK, Bg0, FN6, by rw [← hq, drop_at hd]; (simp [subL, *]; done), f82.sub (sr rfl (sr rfl (sr rfl sn)))⟩
  refine C.condF f66 rfl ?_
  refine wp_skip (hK32 _ _ ?_)
  have f67 := f66.sub (sc 1 (sc 3 (sc 4 sn)))
  refine C.region ?_
  refine L.mv f67 fun a68 f68 => ?_
  refine L.va f68 (E.add f68 rfl rfl (IntWalk.i64_in _ (by omega))) fun a69 f69 => ?_
  refine L.ag f69 fun a70 f70 => ?_
  clear f65 f66 f67 a64 f68 a68 f69 a69
  refine wpList_nil (hKL29 _ _ (gk30 - 1) ?_ ?_)
  ·omega
  exact ⟨k + 1, _, _, _, by omega, HK, Bg0, FN4, by rw [← hq, drop_at hd]; (simp [subL, *]; done), f70.sub (sr rfl (sr rfl (sr rfl sn)))⟩
 refine C.condF f50 rfl ?_
 refine wp_exit (hK27 _ _ ?_)
 have f51 := f50.sub (sc 1 (sc 3 sn))
 refine wp_seq_k fun K35 hK35 => ?_
 refine C.sk fun K36 hK36 => ?_
 refine L.ag f51 fun a52 f52 => ?_
 refine wpList_nil (hK36 _ _ ?_)
 have f53 := f52.sub (sc 1 (sc 3 (sc 5 sn)))
 refine wp_block ?_
 clear f49 f50 f51 a48 f52
 refine C.loop (fun gk a W => ∃ (k : Nat) (A : Option Addr) (c : Nat) (l : List UInt8), k + gk = p.codes.length ∧ Kept [] w W ∧ Blk W g0 34 (p.cells s) ∧ FB w W A c l ∧ l ++ ((p.codes.drop k).map b8) = bodyR p ∧ Fr 157 a [(1, .pointer (some ⟨g0, 0, none⟩)), (3, .slice A l.length c), (5, .int .i64 k)]) (p.codes.length) ?_ ?_
 ·exact ⟨0, _, _, _, by omega, HK, Bg0, FL, by rw [← hq, drop_out p.subs (by omega)]; simp, f53.sub (sr rfl (sr rfl (sr rfl sn)))⟩
 intro gk38 a54 w4 hI KL37 hKL37
 obtain ⟨k, A, c, l, hk, HK, Bg0, FL, hq, f54⟩ := hI
 try clear f53
 have hll := FB.short FL hq hBL
 have szL := HK.size
 refine wp_seq_k fun K38 hK38 => ?_
 refine C.sk fun K39 hK39 => ?_
 refine L.mv f54 fun a55 f55 => ?_
 refine L.fa 23 f55 U34 rfl wsz32_wc fun a56 f56 => ?_
 refine L.ld f56 U32 Bg0 fun a57 f57 => ?_
 refine L.va f57 (E.lenL f57 U32 rfl) fun a58 f58 => ?_
 refine L.va f58 (E.lss f58 rfl rfl) fun a59 f59 => ?_
 refine wpList_nil (hK39 _ _ ?_)
 have f60 := f59.sub (sc 1 (sc 3 (sc 5 (sc 144 sn))))
 clear f54 a54 f55 a55 f56 a56 f57 a57 f58 a58 f59
 refine f60.splitD 144 rfl (fun h12 f61 => ?_) (fun h12 f61 => ?_)
 ·obtain ⟨d, hd⟩ := some_at p.codes k (by omega)
  obtain ⟨bk, off, hA⟩ := IP.codes.addr (by omega)
  refine C.condT f61 rfl ?_
  refine wp_skip (hK38 _ _ ?_)
  have f62 := f61.sub (sc 1 (sc 3 (sc 5 sn)))
  refine wp_seq_k fun K40 hK40 => ?_
  refine wp_block ?_
  refine C.region ?_
  refine L.mv f62 fun a63 f63 => ?_
  refine L.fa 23 f63 U34 rfl wsz32_wc fun a64 f64 => ?_
  refine L.ld f64 U32 Bg0 fun a65 f65 => ?_
  refine L.mv f65 fun a66 f66 => ?_
  refine L.va f66 (E.indexA f66 (by assumption) U32 wsz3_wc rfl rfl (by omega) (by omega)) fun a67 f67 => ?_
  refine L.va f67 (E.load f67 U3 rfl rfl (code_cell1 (IP.codes.kept HK) hA hd)) fun a68 f68 => ?_
  clear f60 f61 f62 a59 f63 a63 f64 a64 f65 a65 f66 a66 f67 a67
  refine L.va f68 (E.conv f68 U3 U5 rfl (wrap_u8 _)) fun a69 f69 => ?_
  refine L.buildSlice f69 wantedN (by decide) (parts1 f69 rfl) U28 wzi5_wc rfl rfl (wbs28_1_wc _) fun a70 w5 g4 N4 f70 => ?_
  have Bg4 := N4.blk
  have kg4 := N4.kept
  have log4 := N4.lo
  have ltg4 := Bg4.lt
  have szw5 := kg4.size
  have frg4 : w.heap.size ≤ g4 := Nat.le_trans HK.size log4
  have neg0_g4 : g0 ≠ g4 := by have := Bg0.lt; omega
  replace HK := HK.z kg4
  replace Bg0 := Bg0.z kg4
  replace FL := FL.kept0 kg4
  clear f68 a68 N4 kg4
  refine L.append f70 wantedN (by decide) U28 wzib5_wc rfl rfl rfl rfl FL.own (Blk.sl1 Bg4 rfl) (by intro u hu; simp at hu; subst hu; rfl) (by (simp [lumpL_len, twoL_len, bytes_len, maxLen]; omega)) (by omega) fun a71 w6 A6 c6 AP6 f71 => ?_
  have FN6 := AP6.nextB FL HK.size ([b8 d]) (by simp [u8_b8]) (by simp)
  have kap6 := AP6.kept
  have szw6 := kap6.size
  replace HK := FL.rel HK kap6
  replace Bg0 := Bg0.kept kap6 (own_ne FL.own Bg0 (by decide))
  clear f69 a69 f70 a70 kap6 AP6 FL
  have f72 := f71.as (i := 155) rfl (sl_lenF FN6 (by simp))
  refine L.ag f72 fun a73 f73 => ?_
  refine wpList_nil (hK40 _ _ ?_)
  have f74 := f73.sub (sc 1 (sc 3 (sc 5 sn)))
  refine C.region ?_
  refine L.mv f74 fun a75 f75 => ?_
  refine L.va f75 (E.add f75 rfl rfl (IntWalk.i64_in _ (by omega))) fun a76 f76 => ?_
  refine L.ag f76 fun a77 f77 => ?_
  clear f71 f72 a71 f73 f74 a73 f75 a75 f76 a76
  refine wpList_nil (hKL37 _ _ (gk38 - 1) ?_ ?_)
  ·omega
  exact ⟨k + 1, _, _, _, by omega, HK, Bg0, FN6, by rw [← hq, drop_at hd]; (simp [subL, *]; done), f77.sub (sr rfl (sr rfl (sr rfl sn)))⟩
 refine C.condF f61 rfl ?_
 refine wp_exit (hK35 _ _ ?_)
 have f62 := f61.sub (sc 3 sn)
 refine C.sk fun K41 hK41 => ?_
 refine L.mv f62 fun a63 f63 => ?_
 refine L.ag f63 fun a64 f64 => ?_
 have f65 := f64.sub (sc 2 sn)
 refine wpList_nil (hK41 _ _ (wp_ret ?_)); (try simp only [xt, xb]); refine C.ret f65 rfl rfl ?_
 exact NewB.of HK FL (by rw [← hq, drop_out p.codes (by omega)]; simp)
end Go.Proofs.Ytkdeedhjkjffpaa
namespace Go.Proofs.Ytkdeedhjkjffpaa
open Go.RowKit Go.Hub Go.Lib Go.Vl
theorem wsz3_wd : (Try.prog.info? 3).map (·.size) = some 1 := by kernel_rfl
theorem wsz4_wd : (Try.prog.info? 4).map (·.size) = some 1 := by kernel_rfl
theorem wsz9_wd : (Try.prog.info? 9).map (·.size) = some 1 := by kernel_rfl
theorem wsz28_wd : (Try.prog.info? 28).map (·.size) = some 1 := by kernel_rfl
theorem wsz30_wd : (Try.prog.info? 30).map (·.size) = some 4 := by kernel_rfl
theorem wsz31_wd : (Try.prog.info? 31).map (·.size) = some 1 := by kernel_rfl
theorem wsz32_wd : (Try.prog.info? 32).map (·.size) = some 1 := by kernel_rfl
theorem wsz34_wd : (Try.prog.info? 34).map (·.size) = some 24 := by kernel_rfl
theorem wsz46_wd : (Try.prog.info? 46).map (·.size) = some 2 := by kernel_rfl
def subRB (p : Pk) : Bool := p.subs.all fun x => txB x.1 && inB x.2 0 2 && (!decide (p.kind = 10) || decide (x.2 = 0))
def A1 (p : Pk) : Bool := inB p.kind 1 14 && samePk p (bareP p) && (!numB p || inB p.id 1 65535) && inB p.qos 0 2 && txB p.topic && txB p.client && txB p.user && txB p.wt && inB p.wq 0 2 && decide (p.wp.length ≤ 65535) && decide (p.pass.length ≤ 65535)
def A2 (p : Pk) : Bool := inB p.level 0 255 && inB p.keep 0 65535 && (!p.hasPass || p.hasUser) && inB p.code 0 5 && (!p.present || decide (p.code = 0))
def A3 (p : Pk) : Bool := (!(decide (p.kind = 8 ∨ p.kind = 10)) || decide (0 < p.subs.length)) && (!decide (p.kind = 9) || decide (0 < p.codes.length))
theorem A1_kd {p : Pk} (h : A1 p = true) : inB p.kind 1 14 = true := by
  simp only [A1, Bool.and_eq_true] at h
  exact h.1.1.1.1.1.1.1.1.1.1
theorem A1_bare {p : Pk} (h : A1 p = true) : p = bareP p := by
  simp only [A1, Bool.and_eq_true] at h
  exact samePk_iff.1 h.1.1.1.1.1.1.1.1.1.2
theorem rightR_eq (p : Pk) : rightR p = (A1 p && A2 p && subRB p && codB p.codes && A3 p && decide ((behindL p).length ≤ 8192)) := by
  simp only [rightR, A1, A2, A3, subRB, Bool.and_assoc]
set_option maxRecDepth 100000 in
set_option maxHeartbeats 8000000 in
theorem rightR_any (p : Pk) (s : Ad) (w : World) (IP : p.In w s) (hL : p.Len) : Calls Try.prog 11 #[.agg (p.cells s)] w (fun e w' => Kept [] w w' ∧ e = .returned (.bool (rightR p))) := by
 have HK : Kept [] w w := Kept.refl [] w
 refine C.enter Try.func11 rfl Try.ntmps11 rfl ?_
 intro a0 f0
 have f1 : Fr 201 a0 [(0, .agg (p.cells s))] := f0
 refine C.sk fun K0 hK0 => ?_
 refine L.box f1 wantedN (by decide) rfl rfl fun a2 w1 g0 N0 f2 => ?_
 have Bg0 := N0.blk
 have kg0 := N0.kept
 have log0 := N0.lo
 have ltg0 := Bg0.lt
 have szw1 := kg0.size
 have frg0 : w.heap.size ≤ g0 := Nat.le_trans HK.size log0
 replace HK := HK.z kg0
 clear f0 N0 kg0
 refine L.ag f2 fun a3 f3 => ?_
 refine wpList_nil (hK0 _ _ ?_)
 have f4 := f3.sub (sc 1 sn)
 obtain ⟨J3, hJ3⟩ : ∃ J : Act → World → Prop, J = fun a W => Kept [] w W ∧ Blk W g0 34 (p.cells s) ∧ A1 p = true ∧ inB p.wq 0 2 = true ∧ Fr 201 a [(1, .pointer (some ⟨g0, 0, none⟩))] := ⟨_, rfl⟩
 clear f1 a0 f2 a2 f3
 refine C.cut J3 ?_ ?_
 ·as_aux_lemma =>
  refine wp_seq_k fun K1 hK1 => ?_
  have hd1 : Kept [] w1 (w1.drewN 1) := (Kept.refl _ _).drewN 1
  refine R.beginT (S := fun W => (Kept [] w W) ∧ (Blk W g0 34 (p.cells s))) (by kernel_rfl) (by kernel_rfl) ⟨HK.z hd1, Bg0.z hd1⟩ fun ht => ?_
  obtain ⟨w2, hww2⟩ : ∃ W, W = w1.drewN 1 := ⟨_, rfl⟩
  rw [← hww2] at hd1 ⊢
  clear hww2
  have szw2 := hd1.size
  replace HK := HK.z hd1
  replace Bg0 := Bg0.z hd1
  clear hd1
  refine R.u 0 f4 rfl ht ⟨HK, Bg0⟩ (fun W hW => (E.fa 0 f4 U34 rfl wsz3_wd)) fun a5 f5 => ?_
  refine R.u 1 f5 rfl ht ⟨HK, Bg0⟩ (fun W hW => (E.ld f5 U3 (hW.2))) fun a6 f6 => ?_
  refine R.call 2 f6 rfl rfl (by decide) (by kernel_rfl) wantedN (run_call Try.call21 (args3 f6 rfl rfl rfl)) (inR_any _ _ _ _) ?_
  clear f4 a3 f5 a5
  rintro e w2x ⟨rfl, rfl⟩
  refine ⟨_, rfl, ⟨HK, Bg0⟩, fun a7 f7 => ?_⟩
  refine R.u 3 f7 rfl ht ⟨HK, Bg0⟩ (fun W hW => (E.not f7 rfl)) fun a8 f8 => ?_
  refine R.u 4 f8 rfl ht ⟨HK, Bg0⟩ (fun W hW => (E.move f8 rfl)) fun a9 f9 => ?_
  clear f6 a6 f7 a7 f8 a8
  refine f9.splitNB 9 rfl (fun h0 f10 => ?_) (fun h0 f10 => ?_)
  ·as_aux_lemma =>
   refine R.runT [5, 6, 7, 8, 9, 10, 11, 12, 13, 14, 15, 16, 17, 18, 19, 20, 21, 22, 23, 24, 25, 26, 27, 28, 29, 30, 31, 32, 33, 34, 35, 36, 37, 38, 39, 40, 41, 42, 43, 44, 45, 46, 47, 48, 49, 50, 51, 52, 53, 54, 55, 56, 57, 58, 59, 60, 61, 62, 63, 64, 65, 66, 67, 68, 69, 70, 71] (tf 72 []) f10 ht (fun _ _ _ _ h => h) ⟨HK, Bg0⟩ (by kernel_rfl) fun a11 f11 => ?_
   have f12 := f11.sub (scT f11 1 (sv 76 (.bool true) sn))
   refine R.done (by kernel_rfl) (hK1 _ _ ?_)
   have f13 := f12.sub (sc 1 (sc 76 sn))
   refine C.condT f13 rfl ?_
   refine C.sk fun K2 hK2 => ?_
   refine L.ag f13 fun a14 f14 => ?_
   have f15 := f14.sub (sc 2 sn)
   refine wpList_nil (hK2 _ _ (wp_ret ?_)); (try simp only [xt, xb]); refine C.ret f15 rfl rfl ?_
   exact ⟨HK, by rw [rightR_eq]; (simp [A1, *]; done)⟩
  refine R.u 5 f10 rfl ht ⟨HK, Bg0⟩ (fun W hW => (E.loadB f10 U34 rfl wsz34_wd rfl (hW.2) rfl)) (hw := (f10.yes rfl rfl)) fun a11 f11 => ?_
  refine R.u 6 f11 rfl ht ⟨HK, Bg0⟩ (fun W hW => (E.loadB f11 U34 rfl wsz34_wd rfl (hW.2) rfl)) (hw := (f11.yes rfl rfl)) fun a12 f12 => ?_
  refine R.call 7 f12 rfl rfl (by decide) (by kernel_rfl) (f12.yes rfl rfl) (run_call Try.call23 (args1 f12 rfl)) (only_any p s _ (IP.kept HK)) ?_
  clear f9 f10 a9 f11 a11
  rintro e w3 ⟨kc3, tb, rfl, IB⟩
  have szw3 := kc3.size
  replace HK := HK.z kc3
  replace Bg0 := Bg0.z kc3
  refine ⟨_, rfl, ⟨HK, Bg0⟩, fun a13 f13 => ?_⟩
  clear f12 a12 kc3
  refine R.call 8 f13 rfl rfl (by decide) (by kernel_rfl) (f13.yes rfl rfl) (run_call Try.call22 (args2 f13 rfl rfl)) (sameR_any p (bareP p) s tb _ (IP.kept HK) IB hL.subs hL.codes) ?_
  rintro e w4 ⟨kc4, rfl⟩
  have szw4 := kc4.size
  replace HK := HK.z kc4
  replace Bg0 := Bg0.z kc4
  replace IB := IB.kept kc4
  refine ⟨_, rfl, ⟨HK, Bg0⟩, fun a14 f14 => ?_⟩
  clear f13 a13 kc4
  refine R.u 9 f14 rfl ht ⟨HK, Bg0⟩ (fun W hW => (E.not f14 rfl)) (hw := (f14.yes rfl rfl)) fun a15 f15 => ?_
  refine R.u 10 f15 rfl ht ⟨HK, Bg0⟩ (fun W hW => (E.pickF f15 rfl rfl)) fun a16 f16 => ?_
  refine R.u 11 f16 rfl ht ⟨HK, Bg0⟩ (fun W hW => (E.move f16 rfl)) fun a17 f17 => ?_
  clear f14 a14 f15 a15 f16 a16
  refine f17.splitNB 16 rfl (fun h1 f18 => ?_) (fun h1 f18 => ?_)
  ·as_aux_lemma =>
   refine R.runT [12, 13, 14, 15, 16, 17, 18, 19, 20, 21, 22, 23, 24, 25, 26, 27, 28, 29, 30, 31, 32, 33, 34, 35, 36, 37, 38, 39, 40, 41, 42, 43, 44, 45, 46, 47, 48, 49, 50, 51, 52, 53, 54, 55, 56, 57, 58, 59, 60, 61, 62, 63, 64, 65, 66, 67, 68, 69, 70, 71] (tf 72 []) f18 ht (fun _ _ _ _ h => h) ⟨HK, Bg0⟩ (by kernel_rfl) fun a19 f19 => ?_
   have f20 := f19.sub (scT f19 1 (sv 76 (.bool true) sn))
   refine R.done (by kernel_rfl) (hK1 _ _ ?_)
   have f21 := f20.sub (sc 1 (sc 76 sn))
   refine C.condT f21 rfl ?_
   refine C.sk fun K3 hK3 => ?_
   refine L.ag f21 fun a22 f22 => ?_
   have f23 := f22.sub (sc 2 sn)
   refine wpList_nil (hK3 _ _ (wp_ret ?_)); (try simp only [xt, xb]); refine C.ret f23 rfl rfl ?_
   exact ⟨HK, by rw [rightR_eq]; (simp [A1, *]; done)⟩
  refine R.u 12 f18 rfl ht ⟨HK, Bg0⟩ (fun W hW => (E.loadB f18 U34 rfl wsz34_wd rfl (hW.2) rfl)) (hw := (f18.yes rfl rfl)) fun a19 f19 => ?_
  refine R.call 13 f19 rfl rfl (by decide) (by kernel_rfl) (f19.yes rfl rfl) (run_call Try.call24 (args1 f19 rfl)) (numR_any p s _) ?_
  clear f17 f18 a17
  rintro e w5 ⟨kc5, rfl⟩
  have szw5 := kc5.size
  replace HK := HK.z kc5
  replace Bg0 := Bg0.z kc5
  replace IB := IB.kept kc5
  refine ⟨_, rfl, ⟨HK, Bg0⟩, fun a20 f20 => ?_⟩
  clear f19 a19 kc5
  refine R.u 14 f20 rfl ht ⟨HK, Bg0⟩ (fun W hW => (E.move f20 rfl)) (hw := (f20.yes rfl rfl)) fun a21 f21 => ?_
  clear f20 a20
  refine f21.split 19 rfl (fun h2 f22 => ?_) (fun h2 f22 => ?_)
  ·as_aux_lemma =>
   refine R.u 15 f22 rfl ht ⟨HK, Bg0⟩ (fun W hW => (E.fa 4 f22 U34 rfl wsz3_wd)) (hw := (f22.yes rfl rfl)) fun a23 f23 => ?_
   refine R.u 16 f23 rfl ht ⟨HK, Bg0⟩ (fun W hW => (E.ld f23 U3 (hW.2))) (hw := (f23.yes rfl rfl)) fun a24 f24 => ?_
   refine R.call 17 f24 rfl rfl (by decide) (by kernel_rfl) (f24.yes rfl rfl) (run_call Try.call21 (args3 f24 rfl rfl rfl)) (inR_any _ _ _ _) ?_
   clear f21 f22 a21 f23 a23
   rintro e w5x ⟨rfl, rfl⟩
   refine ⟨_, rfl, ⟨HK, Bg0⟩, fun a25 f25 => ?_⟩
   refine R.u 18 f25 rfl ht ⟨HK, Bg0⟩ (fun W hW => (E.not f25 rfl)) (hw := (f25.yes rfl rfl)) fun a26 f26 => ?_
   refine R.u 19 f26 rfl ht ⟨HK, Bg0⟩ (fun W hW => (E.pickT f26 rfl rfl)) (hw := (f26.yes rfl rfl)) fun a27 f27 => ?_
   refine R.u 20 f27 rfl ht ⟨HK, Bg0⟩ (fun W hW => (E.pickF f27 rfl rfl)) fun a28 f28 => ?_
   refine R.u 21 f28 rfl ht ⟨HK, Bg0⟩ (fun W hW => (E.move f28 rfl)) fun a29 f29 => ?_
   clear f24 a24 f25 a25 f26 a26 f27 a27 f28 a28
   refine f29.splitNB 26 rfl (fun h3 f30 => ?_) (fun h3 f30 => ?_)
   ·as_aux_lemma =>
    refine R.runT [22, 23, 24, 25, 26, 27, 28, 29, 30, 31, 32, 33, 34, 35, 36, 37, 38, 39, 40, 41, 42, 43, 44, 45, 46, 47, 48, 49, 50, 51, 52, 53, 54, 55, 56, 57, 58, 59, 60, 61, 62, 63, 64, 65, 66, 67, 68, 69, 70, 71] (tf 72 []) f30 ht (fun _ _ _ _ h => h) ⟨HK, Bg0⟩ (by kernel_rfl) fun a31 f31 => ?_
    have f32 := f31.sub (scT f31 1 (sv 76 (.bool true) sn))
    refine R.done (by kernel_rfl) (hK1 _ _ ?_)
    have f33 := f32.sub (sc 1 (sc 76 sn))
    refine C.condT f33 rfl ?_
    refine C.sk fun K4 hK4 => ?_
    refine L.ag f33 fun a34 f34 => ?_
    have f35 := f34.sub (sc 2 sn)
    refine wpList_nil (hK4 _ _ (wp_ret ?_)); (try simp only [xt, xb]); refine C.ret f35 rfl rfl ?_
    exact ⟨HK, by rw [rightR_eq]; (simp [A1, *]; done)⟩
   refine R.u 22 f30 rfl ht ⟨HK, Bg0⟩ (fun W hW => (E.fa 3 f30 U34 rfl wsz3_wd)) (hw := (f30.yes rfl rfl)) fun a31 f31 => ?_
   refine R.u 23 f31 rfl ht ⟨HK, Bg0⟩ (fun W hW => (E.ld f31 U3 (hW.2))) (hw := (f31.yes rfl rfl)) fun a32 f32 => ?_
   refine R.call 24 f32 rfl rfl (by decide) (by kernel_rfl) (f32.yes rfl rfl) (run_call Try.call21 (args3 f32 rfl rfl rfl)) (inR_any _ _ _ _) ?_
   clear f29 f30 a29 f31 a31
   rintro e w5x ⟨rfl, rfl⟩
   refine ⟨_, rfl, ⟨HK, Bg0⟩, fun a33 f33 => ?_⟩
   refine R.u 25 f33 rfl ht ⟨HK, Bg0⟩ (fun W hW => (E.not f33 rfl)) (hw := (f33.yes rfl rfl)) fun a34 f34 => ?_
   refine R.u 26 f34 rfl ht ⟨HK, Bg0⟩ (fun W hW => (E.pickF f34 rfl rfl)) fun a35 f35 => ?_
   refine R.u 27 f35 rfl ht ⟨HK, Bg0⟩ (fun W hW => (E.move f35 rfl)) fun a36 f36 => ?_
   clear f32 a32 f33 a33 f34 a34 f35 a35
   refine f36.splitNB 32 rfl (fun h4 f37 => ?_) (fun h4 f37 => ?_)
   ·as_aux_lemma =>
    refine R.runT [28, 29, 30, 31, 32, 33, 34, 35, 36, 37, 38, 39, 40, 41, 42, 43, 44, 45, 46, 47, 48, 49, 50, 51, 52, 53, 54, 55, 56, 57, 58, 59, 60, 61, 62, 63, 64, 65, 66, 67, 68, 69, 70, 71] (tf 72 []) f37 ht (fun _ _ _ _ h => h) ⟨HK, Bg0⟩ (by kernel_rfl) fun a38 f38 => ?_
    have f39 := f38.sub (scT f38 1 (sv 76 (.bool true) sn))
    refine R.done (by kernel_rfl) (hK1 _ _ ?_)
    have f40 := f39.sub (sc 1 (sc 76 sn))
    refine C.condT f40 rfl ?_
    refine C.sk fun K5 hK5 => ?_
    refine L.ag f40 fun a41 f41 => ?_
    have f42 := f41.sub (sc 2 sn)
    refine wpList_nil (hK5 _ _ (wp_ret ?_)); (try simp only [xt, xb]); refine C.ret f42 rfl rfl ?_
    exact ⟨HK, by rw [rightR_eq]; (simp [A1, *]; done)⟩
   refine R.u 28 f37 rfl ht ⟨HK, Bg0⟩ (fun W hW => (E.fa 5 f37 U34 rfl wsz9_wd)) (hw := (f37.yes rfl rfl)) fun a38 f38 => ?_
   refine R.u 29 f38 rfl ht ⟨HK, Bg0⟩ (fun W hW => (E.ld f38 U9 (hW.2))) (hw := (f38.yes rfl rfl)) fun a39 f39 => ?_
   refine R.call 30 f39 rfl rfl (by decide) (by kernel_rfl) (f39.yes rfl rfl) (run_call Try.call25 (args1 f39 rfl)) (textR_any _ _) ?_
   clear f36 f37 a36 f38 a38
   rintro e w6 ⟨kc6, rfl⟩
   have szw6 := kc6.size
   replace HK := HK.z kc6
   replace Bg0 := Bg0.z kc6
   replace IB := IB.kept kc6
   refine ⟨_, rfl, ⟨HK, Bg0⟩, fun a40 f40 => ?_⟩
   clear f39 a39 kc6
   refine R.u 31 f40 rfl ht ⟨HK, Bg0⟩ (fun W hW => (E.not f40 rfl)) (hw := (f40.yes rfl rfl)) fun a41 f41 => ?_
   refine R.u 32 f41 rfl ht ⟨HK, Bg0⟩ (fun W hW => (E.pickF f41 rfl rfl)) fun a42 f42 => ?_
   refine R.u 33 f42 rfl ht ⟨HK, Bg0⟩ (fun W hW => (E.move f42 rfl)) fun a43 f43 => ?_
   clear f40 a40 f41 a41 f42 a42
   refine f43.splitNB 38 rfl (fun h5 f44 => ?_) (fun h5 f44 => ?_)
   ·as_aux_lemma =>
    refine R.runT [34, 35, 36, 37, 38, 39, 40, 41, 42, 43, 44, 45, 46, 47, 48, 49, 50, 51, 52, 53, 54, 55, 56, 57, 58, 59, 60, 61, 62, 63, 64, 65, 66, 67, 68, 69, 70, 71] (tf 72 []) f44 ht (fun _ _ _ _ h => h) ⟨HK, Bg0⟩ (by kernel_rfl) fun a45 f45 => ?_
    have f46 := f45.sub (scT f45 1 (sv 76 (.bool true) sn))
    refine R.done (by kernel_rfl) (hK1 _ _ ?_)
    have f47 := f46.sub (sc 1 (sc 76 sn))
    refine C.condT f47 rfl ?_
    refine C.sk fun K6 hK6 => ?_
    refine L.ag f47 fun a48 f48 => ?_
    have f49 := f48.sub (sc 2 sn)
    refine wpList_nil (hK6 _ _ (wp_ret ?_)); (try simp only [xt, xb]); refine C.ret f49 rfl rfl ?_
    exact ⟨HK, by rw [rightR_eq]; (simp [A1, *]; done)⟩
   refine R.u 34 f44 rfl ht ⟨HK, Bg0⟩ (fun W hW => (E.fa 8 f44 U34 rfl wsz9_wd)) (hw := (f44.yes rfl rfl)) fun a45 f45 => ?_
   refine R.u 35 f45 rfl ht ⟨HK, Bg0⟩ (fun W hW => (E.ld f45 U9 (hW.2))) (hw := (f45.yes rfl rfl)) fun a46 f46 => ?_
   refine R.call 36 f46 rfl rfl (by decide) (by kernel_rfl) (f46.yes rfl rfl) (run_call Try.call25 (args1 f46 rfl)) (textR_any _ _) ?_
   clear f43 f44 a43 f45 a45
   rintro e w7 ⟨kc7, rfl⟩
   have szw7 := kc7.size
   replace HK := HK.z kc7
   replace Bg0 := Bg0.z kc7
   replace IB := IB.kept kc7
   refine ⟨_, rfl, ⟨HK, Bg0⟩, fun a47 f47 => ?_⟩
   clear f46 a46 kc7
   refine R.u 37 f47 rfl ht ⟨HK, Bg0⟩ (fun W hW => (E.not f47 rfl)) (hw := (f47.yes rfl rfl)) fun a48 f48 => ?_
   refine R.u 38 f48 rfl ht ⟨HK, Bg0⟩ (fun W hW => (E.pickF f48 rfl rfl)) fun a49 f49 => ?_
   refine R.u 39 f49 rfl ht ⟨HK, Bg0⟩ (fun W hW => (E.move f49 rfl)) fun a50 f50 => ?_
   clear f47 a47 f48 a48 f49 a49
   refine f50.splitNB 44 rfl (fun h6 f51 => ?_) (fun h6 f51 => ?_)
   ·as_aux_lemma =>
    refine R.runT [40, 41, 42, 43, 44, 45, 46, 47, 48, 49, 50, 51, 52, 53, 54, 55, 56, 57, 58, 59, 60, 61, 62, 63, 64, 65, 66, 67, 68, 69, 70, 71] (tf 72 []) f51 ht (fun _ _ _ _ h => h) ⟨HK, Bg0⟩ (by kernel_rfl) fun a52 f52 => ?_
    have f53 := f52.sub (scT f52 1 (sv 76 (.bool true) sn))
    refine R.done (by kernel_rfl) (hK1 _ _ ?_)
    have f54 := f53.sub (sc 1 (sc 76 sn))
    refine C.condT f54 rfl ?_
    refine C.sk fun K7 hK7 => ?_
    refine L.ag f54 fun a55 f55 => ?_
    have f56 := f55.sub (sc 2 sn)
    refine wpList_nil (hK7 _ _ (wp_ret ?_)); (try simp only [xt, xb]); refine C.ret f56 rfl rfl ?_
    exact ⟨HK, by rw [rightR_eq]; (simp [A1, *]; done)⟩
   refine R.u 40 f51 rfl ht ⟨HK, Bg0⟩ (fun W hW => (E.fa 18 f51 U34 rfl wsz9_wd)) (hw := (f51.yes rfl rfl)) fun a52 f52 => ?_
   refine R.u 41 f52 rfl ht ⟨HK, Bg0⟩ (fun W hW => (E.ld f52 U9 (hW.2))) (hw := (f52.yes rfl rfl)) fun a53 f53 => ?_
   refine R.call 42 f53 rfl rfl (by decide) (by kernel_rfl) (f53.yes rfl rfl) (run_call Try.call25 (args1 f53 rfl)) (textR_any _ _) ?_
   clear f50 f51 a50 f52 a52
   rintro e w8 ⟨kc8, rfl⟩
   have szw8 := kc8.size
   replace HK := HK.z kc8
   replace Bg0 := Bg0.z kc8
   replace IB := IB.kept kc8
   refine ⟨_, rfl, ⟨HK, Bg0⟩, fun a54 f54 => ?_⟩
   clear f53 a53 kc8
   refine R.u 43 f54 rfl ht ⟨HK, Bg0⟩ (fun W hW => (E.not f54 rfl)) (hw := (f54.yes rfl rfl)) fun a55 f55 => ?_
   refine R.u 44 f55 rfl ht ⟨HK, Bg0⟩ (fun W hW => (E.pickF f55 rfl rfl)) fun a56 f56 => ?_
   refine R.u 45 f56 rfl ht ⟨HK, Bg0⟩ (fun W hW => (E.move f56 rfl)) fun a57 f57 => ?_
   clear f54 a54 f55 a55 f56 a56
   refine f57.splitNB 50 rfl (fun h7 f58 => ?_) (fun h7 f58 => ?_)
   ·as_aux_lemma =>
    refine R.runT [46, 47, 48, 49, 50, 51, 52, 53, 54, 55, 56, 57, 58, 59, 60, 61, 62, 63, 64, 65, 66, 67, 68, 69, 70, 71] (tf 72 []) f58 ht (fun _ _ _ _ h => h) ⟨HK, Bg0⟩ (by kernel_rfl) fun a59 f59 => ?_
    have f60 := f59.sub (scT f59 1 (sv 76 (.bool true) sn))
    refine R.done (by kernel_rfl) (hK1 _ _ ?_)
    have f61 := f60.sub (sc 1 (sc 76 sn))
    refine C.condT f61 rfl ?_
    refine C.sk fun K8 hK8 => ?_
    refine L.ag f61 fun a62 f62 => ?_
    have f63 := f62.sub (sc 2 sn)
    refine wpList_nil (hK8 _ _ (wp_ret ?_)); (try simp only [xt, xb]); refine C.ret f63 rfl rfl ?_
    exact ⟨HK, by rw [rightR_eq]; (simp [A1, *]; done)⟩
   refine R.u 46 f58 rfl ht ⟨HK, Bg0⟩ (fun W hW => (E.fa 12 f58 U34 rfl wsz30_wd)) (hw := (f58.yes rfl rfl)) fun a59 f59 => ?_
   refine R.u 47 f59 rfl ht ⟨HK, Bg0⟩ (fun W hW => (E.fa 0 f59 U30 rfl wsz9_wd)) (hw := (f59.yes rfl rfl)) fun a60 f60 => ?_
   refine R.u 48 f60 rfl ht ⟨HK, Bg0⟩ (fun W hW => (E.ld f60 U9 (hW.2))) (hw := (f60.yes rfl rfl)) fun a61 f61 => ?_
   refine R.call 49 f61 rfl rfl (by decide) (by kernel_rfl) (f61.yes rfl rfl) (run_call Try.call25 (args1 f61 rfl)) (textR_any _ _) ?_
   clear f57 f58 a57 f59 a59 f60 a60
   rintro e w9 ⟨kc9, rfl⟩
   have szw9 := kc9.size
   replace HK := HK.z kc9
   replace Bg0 := Bg0.z kc9
   replace IB := IB.kept kc9
   refine ⟨_, rfl, ⟨HK, Bg0⟩, fun a62 f62 => ?_⟩
   clear f61 a61 kc9
   refine R.u 50 f62 rfl ht ⟨HK, Bg0⟩ (fun W hW => (E.not f62 rfl)) (hw := (f62.yes rfl rfl)) fun a63 f63 => ?_
   refine R.u 51 f63 rfl ht ⟨HK, Bg0⟩ (fun W hW => (E.pickF f63 rfl rfl)) fun a64 f64 => ?_
   refine R.u 52 f64 rfl ht ⟨HK, Bg0⟩ (fun W hW => (E.move f64 rfl)) fun a65 f65 => ?_
   clear f62 a62 f63 a63 f64 a64
   refine f65.splitNB 57 rfl (fun h8 f66 => ?_) (fun h8 f66 => ?_)
   ·as_aux_lemma =>
    refine R.runT [53, 54, 55, 56, 57, 58, 59, 60, 61, 62, 63, 64, 65, 66, 67, 68, 69, 70, 71] (tf 72 []) f66 ht (fun _ _ _ _ h => h) ⟨HK, Bg0⟩ (by kernel_rfl) fun a67 f67 => ?_
    have f68 := f67.sub (scT f67 1 (sv 76 (.bool true) sn))
    refine R.done (by kernel_rfl) (hK1 _ _ ?_)
    have f69 := f68.sub (sc 1 (sc 76 sn))
    refine C.condT f69 rfl ?_
    refine C.sk fun K9 hK9 => ?_
    refine L.ag f69 fun a70 f70 => ?_
    have f71 := f70.sub (sc 2 sn)
    refine wpList_nil (hK9 _ _ (wp_ret ?_)); (try simp only [xt, xb]); refine C.ret f71 rfl rfl ?_
    exact ⟨HK, by rw [rightR_eq]; (simp [A1, *]; done)⟩
   refine R.u 53 f66 rfl ht ⟨HK, Bg0⟩ (fun W hW => (E.fa 12 f66 U34 rfl wsz30_wd)) (hw := (f66.yes rfl rfl)) fun a67 f67 => ?_
   refine R.u 54 f67 rfl ht ⟨HK, Bg0⟩ (fun W hW => (E.fa 2 f67 U30 rfl wsz3_wd)) (hw := (f67.yes rfl rfl)) fun a68 f68 => ?_
   refine R.u 55 f68 rfl ht ⟨HK, Bg0⟩ (fun W hW => (E.ld f68 U3 (hW.2))) (hw := (f68.yes rfl rfl)) fun a69 f69 => ?_
   refine R.call 56 f69 rfl rfl (by decide) (by kernel_rfl) (f69.yes rfl rfl) (run_call Try.call21 (args3 f69 rfl rfl rfl)) (inR_any _ _ _ _) ?_
   clear f65 f66 a65 f67 a67 f68 a68
   rintro e w9x ⟨rfl, rfl⟩
   refine ⟨_, rfl, ⟨HK, Bg0⟩, fun a70 f70 => ?_⟩
   refine R.u 57 f70 rfl ht ⟨HK, Bg0⟩ (fun W hW => (E.not f70 rfl)) (hw := (f70.yes rfl rfl)) fun a71 f71 => ?_
   refine R.u 58 f71 rfl ht ⟨HK, Bg0⟩ (fun W hW => (E.pickF f71 rfl rfl)) fun a72 f72 => ?_
   refine R.u 59 f72 rfl ht ⟨HK, Bg0⟩ (fun W hW => (E.move f72 rfl)) fun a73 f73 => ?_
   clear f69 a69 f70 a70 f71 a71 f72 a72
   refine f73.splitNB 64 rfl (fun h9 f74 => ?_) (fun h9 f74 => ?_)
   ·as_aux_lemma =>
    refine R.runT [60, 61, 62, 63, 64, 65, 66, 67, 68, 69, 70, 71] (tf 72 []) f74 ht (fun _ _ _ _ h => h) ⟨HK, Bg0⟩ (by kernel_rfl) fun a75 f75 => ?_
    have f76 := f75.sub (scT f75 1 (sv 76 (.bool true) sn))
    refine R.done (by kernel_rfl) (hK1 _ _ ?_)
    have f77 := f76.sub (sc 1 (sc 76 sn))
    refine C.condT f77 rfl ?_
    refine C.sk fun K10 hK10 => ?_
    refine L.ag f77 fun a78 f78 => ?_
    have f79 := f78.sub (sc 2 sn)
    refine wpList_nil (hK10 _ _ (wp_ret ?_)); (try simp only [xt, xb]); refine C.ret f79 rfl rfl ?_
    exact ⟨HK, by rw [rightR_eq]; (simp [A1, *]; done)⟩
   refine R.u 60 f74 rfl ht ⟨HK, Bg0⟩ (fun W hW => (E.fa 12 f74 U34 rfl wsz30_wd)) (hw := (f74.yes rfl rfl)) fun a75 f75 => ?_
   refine R.u 61 f75 rfl ht ⟨HK, Bg0⟩ (fun W hW => (E.fa 1 f75 U30 rfl wsz28_wd)) (hw := (f75.yes rfl rfl)) fun a76 f76 => ?_
   refine R.u 62 f76 rfl ht ⟨HK, Bg0⟩ (fun W hW => (E.ld f76 U28 (hW.2))) (hw := (f76.yes rfl rfl)) fun a77 f77 => ?_
   refine R.u 63 f77 rfl ht ⟨HK, Bg0⟩ (fun W hW => (E.lenL f77 U28 rfl)) (hw := (f77.yes rfl rfl)) fun a78 f78 => ?_
   refine R.u 64 f78 rfl ht ⟨HK, Bg0⟩ (fun W hW => (E.gtr f78 rfl rfl)) (hw := (f78.yes rfl rfl)) fun a79 f79 => ?_
   refine R.u 65 f79 rfl ht ⟨HK, Bg0⟩ (fun W hW => (E.pickF f79 rfl rfl)) fun a80 f80 => ?_
   refine R.u 66 f80 rfl ht ⟨HK, Bg0⟩ (fun W hW => (E.move f80 rfl)) fun a81 f81 => ?_
   clear f73 f74 a73 f75 a75 f76 a76 f77 a77 f78 a78 f79 a79 f80 a80
   refine f81.splitD 71 rfl (fun h10 f82 => ?_) (fun h10 f82 => ?_)
   ·as_aux_lemma =>
    have hlw : ¬ p.wp.length ≤ 65535 := by omega
    refine R.runT [67, 68, 69, 70, 71] (tf 72 []) f82 ht (fun _ _ _ _ h => h) ⟨HK, Bg0⟩ (by kernel_rfl) fun a83 f83 => ?_
    have f84 := f83.sub (scT f83 1 (sv 76 (.bool true) sn))
    refine R.done (by kernel_rfl) (hK1 _ _ ?_)
    have f85 := f84.sub (sc 1 (sc 76 sn))
    refine C.condT f85 rfl ?_
    refine C.sk fun K11 hK11 => ?_
    refine L.ag f85 fun a86 f86 => ?_
    have f87 := f86.sub (sc 2 sn)
    refine wpList_nil (hK11 _ _ (wp_ret ?_)); (try simp only [xt, xb]); refine C.ret f87 rfl rfl ?_
    exact ⟨HK, by rw [rightR_eq]; (simp [A1, *]; done)⟩
   have hlw : p.wp.length ≤ 65535 := by omega
   refine R.u 67 f82 rfl ht ⟨HK, Bg0⟩ (fun W hW => (E.fa 19 f82 U34 rfl wsz28_wd)) (hw := (f82.yes rfl rfl)) fun a83 f83 => ?_
   refine R.u 68 f83 rfl ht ⟨HK, Bg0⟩ (fun W hW => (E.ld f83 U28 (hW.2))) (hw := (f83.yes rfl rfl)) fun a84 f84 => ?_
   refine R.u 69 f84 rfl ht ⟨HK, Bg0⟩ (fun W hW => (E.lenL f84 U28 rfl)) (hw := (f84.yes rfl rfl)) fun a85 f85 => ?_
   refine R.u 70 f85 rfl ht ⟨HK, Bg0⟩ (fun W hW => (E.gtr f85 rfl rfl)) (hw := (f85.yes rfl rfl)) fun a86 f86 => ?_
   refine R.u 71 f86 rfl ht ⟨HK, Bg0⟩ (fun W hW => (E.pickF f86 rfl rfl)) fun a87 f87 => ?_
   refine R.done (by kernel_rfl) (hK1 _ _ ?_)
   have f88 := f87.sub (sc 1 (sc 76 sn))
   clear f81 f82 a81 f83 a83 f84 a84 f85 a85 f86 a86 f87
   refine f88.splitD 76 rfl (fun h11 f89 => ?_) (fun h11 f89 => ?_)
   ·as_aux_lemma =>
    have hlp : ¬ p.pass.length ≤ 65535 := by omega
    refine C.condT f89 rfl ?_
    refine C.sk fun K12 hK12 => ?_
    refine L.ag f89 fun a90 f90 => ?_
    have f91 := f90.sub (sc 2 sn)
    refine wpList_nil (hK12 _ _ (wp_ret ?_)); (try simp only [xt, xb]); refine C.ret f91 rfl rfl ?_
    exact ⟨HK, by rw [rightR_eq]; (simp [A1, *]; done)⟩
   have hlp : p.pass.length ≤ 65535 := by omega
   refine C.condF f89 rfl ?_
   exact wp_skip (jn J3 (by rw [hJ3]; exact ⟨HK, Bg0, by simp [A1, *], by assumption, f89.sub (sx sn)⟩))
  refine R.runT [15, 16, 17, 18, 19, 20, 21] #[true, true, true, true, true, true, true, true, true, true, true, true, true, true, true, true, true, true, true, true, true, true, false, false, false, false, false, false, false, false, false, false, false, false, false, false, false, false, false, false, false, false, false, false, false, false, false, false, false, false, false, false, false, false, false, false, false, false, false, false, false, false, false, false, false, false, false, false, false, false, false, false] f22 ht (fun _ _ _ _ h => h) ⟨HK, Bg0⟩ (by kernel_rfl) fun a23 f23 => ?_
  have f24 := f23.sub (scT f23 1 (sv 26 (.bool false) sn))
  refine R.u 22 f24 rfl ht ⟨HK, Bg0⟩ (fun W hW => (E.fa 3 f24 U34 rfl wsz3_wd)) (hw := (f24.yes rfl rfl)) fun a25 f25 => ?_
  refine R.u 23 f25 rfl ht ⟨HK, Bg0⟩ (fun W hW => (E.ld f25 U3 (hW.2))) (hw := (f25.yes rfl rfl)) fun a26 f26 => ?_
  refine R.call 24 f26 rfl rfl (by decide) (by kernel_rfl) (f26.yes rfl rfl) (run_call Try.call21 (args3 f26 rfl rfl rfl)) (inR_any _ _ _ _) ?_
  clear f21 f23 f22 f24 a23 f25 a25
  rintro e w5x ⟨rfl, rfl⟩
  refine ⟨_, rfl, ⟨HK, Bg0⟩, fun a27 f27 => ?_⟩
  refine R.u 25 f27 rfl ht ⟨HK, Bg0⟩ (fun W hW => (E.not f27 rfl)) (hw := (f27.yes rfl rfl)) fun a28 f28 => ?_
  refine R.u 26 f28 rfl ht ⟨HK, Bg0⟩ (fun W hW => (E.pickF f28 rfl rfl)) fun a29 f29 => ?_
  refine R.u 27 f29 rfl ht ⟨HK, Bg0⟩ (fun W hW => (E.move f29 rfl)) fun a30 f30 => ?_
  clear f26 a26 f27 a27 f28 a28 f29 a29
  refine f30.splitNB 32 rfl (fun h12 f31 => ?_) (fun h12 f31 => ?_)
  ·as_aux_lemma =>
   refine R.runT [28, 29, 30, 31, 32, 33, 34, 35, 36, 37, 38, 39, 40, 41, 42, 43, 44, 45, 46, 47, 48, 49, 50, 51, 52, 53, 54, 55, 56, 57, 58, 59, 60, 61, 62, 63, 64, 65, 66, 67, 68, 69, 70, 71] (tf 72 []) f31 ht (fun _ _ _ _ h => h) ⟨HK, Bg0⟩ (by kernel_rfl) fun a32 f32 => ?_
   have f33 := f32.sub (scT f32 1 (sv 76 (.bool true) sn))
   refine R.done (by kernel_rfl) (hK1 _ _ ?_)
   have f34 := f33.sub (sc 1 (sc 76 sn))
   refine C.condT f34 rfl ?_
   refine C.sk fun K13 hK13 => ?_
   refine L.ag f34 fun a35 f35 => ?_
   have f36 := f35.sub (sc 2 sn)
   refine wpList_nil (hK13 _ _ (wp_ret ?_)); (try simp only [xt, xb]); refine C.ret f36 rfl rfl ?_
   exact ⟨HK, by rw [rightR_eq]; (simp [A1, *]; done)⟩
  refine R.u 28 f31 rfl ht ⟨HK, Bg0⟩ (fun W hW => (E.fa 5 f31 U34 rfl wsz9_wd)) (hw := (f31.yes rfl rfl)) fun a32 f32 => ?_
  refine R.u 29 f32 rfl ht ⟨HK, Bg0⟩ (fun W hW => (E.ld f32 U9 (hW.2))) (hw := (f32.yes rfl rfl)) fun a33 f33 => ?_
  refine R.call 30 f33 rfl rfl (by decide) (by kernel_rfl) (f33.yes rfl rfl) (run_call Try.call25 (args1 f33 rfl)) (textR_any _ _) ?_
  clear f30 f31 a30 f32 a32
  rintro e w6 ⟨kc6, rfl⟩
  have szw6 := kc6.size
  replace HK := HK.z kc6
  replace Bg0 := Bg0.z kc6
  replace IB := IB.kept kc6
  refine ⟨_, rfl, ⟨HK, Bg0⟩, fun a34 f34 => ?_⟩
  clear f33 a33 kc6
  refine R.u 31 f34 rfl ht ⟨HK, Bg0⟩ (fun W hW => (E.not f34 rfl)) (hw := (f34.yes rfl rfl)) fun a35 f35 => ?_
  refine R.u 32 f35 rfl ht ⟨HK, Bg0⟩ (fun W hW => (E.pickF f35 rfl rfl)) fun a36 f36 => ?_
  refine R.u 33 f36 rfl ht ⟨HK, Bg0⟩ (fun W hW => (E.move f36 rfl)) fun a37 f37 => ?_
  clear f34 a34 f35 a35 f36 a36
  refine f37.splitNB 38 rfl (fun h13 f38 => ?_) (fun h13 f38 => ?_)
  ·as_aux_lemma =>
   refine R.runT [34, 35, 36, 37, 38, 39, 40, 41, 42, 43, 44, 45, 46, 47, 48, 49, 50, 51, 52, 53, 54, 55, 56, 57, 58, 59, 60, 61, 62, 63, 64, 65, 66, 67, 68, 69, 70, 71] (tf 72 []) f38 ht (fun _ _ _ _ h => h) ⟨HK, Bg0⟩ (by kernel_rfl) fun a39 f39 => ?_
   have f40 := f39.sub (scT f39 1 (sv 76 (.bool true) sn))
   refine R.done (by kernel_rfl) (hK1 _ _ ?_)
   have f41 := f40.sub (sc 1 (sc 76 sn))
   refine C.condT f41 rfl ?_
   refine C.sk fun K14 hK14 => ?_
   refine L.ag f41 fun a42 f42 => ?_
   have f43 := f42.sub (sc 2 sn)
   refine wpList_nil (hK14 _ _ (wp_ret ?_)); (try simp only [xt, xb]); refine C.ret f43 rfl rfl ?_
   exact ⟨HK, by rw [rightR_eq]; (simp [A1, *]; done)⟩
  refine R.u 34 f38 rfl ht ⟨HK, Bg0⟩ (fun W hW => (E.fa 8 f38 U34 rfl wsz9_wd)) (hw := (f38.yes rfl rfl)) fun a39 f39 => ?_
  refine R.u 35 f39 rfl ht ⟨HK, Bg0⟩ (fun W hW => (E.ld f39 U9 (hW.2))) (hw := (f39.yes rfl rfl)) fun a40 f40 => ?_
  refine R.call 36 f40 rfl rfl (by decide) (by kernel_rfl) (f40.yes rfl rfl) (run_call Try.call25 (args1 f40 rfl)) (textR_any _ _) ?_
  clear f37 f38 a37 f39 a39
  rintro e w7 ⟨kc7, rfl⟩
  have szw7 := kc7.size
  replace HK := HK.z kc7
  replace Bg0 := Bg0.z kc7
  replace IB := IB.kept kc7
  refine ⟨_, rfl, ⟨HK, Bg0⟩, fun a41 f41 => ?_⟩
  clear f40 a40 kc7
  refine R.u 37 f41 rfl ht ⟨HK, Bg0⟩ (fun W hW => (E.not f41 rfl)) (hw := (f41.yes rfl rfl)) fun a42 f42 => ?_
  refine R.u 38 f42 rfl ht ⟨HK, Bg0⟩ (fun W hW => (E.pickF f42 rfl rfl)) fun a43 f43 => ?_
  refine R.u 39 f43 rfl ht ⟨HK, Bg0⟩ (fun W hW => (E.move f43 rfl)) fun a44 f44 => ?_
  clear f41 a41 f42 a42 f43 a43
  refine f44.splitNB 44 rfl (fun h14 f45 => ?_) (fun h14 f45 => ?_)
  ·as_aux_lemma =>
   refine R.runT [40, 41, 42, 43, 44, 45, 46, 47, 48, 49, 50, 51, 52, 53, 54, 55, 56, 57, 58, 59, 60, 61, 62, 63, 64, 65, 66, 67, 68, 69, 70, 71] (tf 72 []) f45 ht (fun _ _ _ _ h => h) ⟨HK, Bg0⟩ (by kernel_rfl) fun a46 f46 => ?_
   have f47 := f46.sub (scT f46 1 (sv 76 (.bool true) sn))
   refine R.done (by kernel_rfl) (hK1 _ _ ?_)
   have f48 := f47.sub (sc 1 (sc 76 sn))
   refine C.condT f48 rfl ?_
   refine C.sk fun K15 hK15 => ?_
   refine L.ag f48 fun a49 f49 => ?_
   have f50 := f49.sub (sc 2 sn)
   refine wpList_nil (hK15 _ _ (wp_ret ?_)); (try simp only [xt, xb]); refine C.ret f50 rfl rfl ?_
   exact ⟨HK, by rw [rightR_eq]; (simp [A1, *]; done)⟩
  refine R.u 40 f45 rfl ht ⟨HK, Bg0⟩ (fun W hW => (E.fa 18 f45 U34 rfl wsz9_wd)) (hw := (f45.yes rfl rfl)) fun a46 f46 => ?_
  refine R.u 41 f46 rfl ht ⟨HK, Bg0⟩ (fun W hW => (E.ld f46 U9 (hW.2))) (hw := (f46.yes rfl rfl)) fun a47 f47 => ?_
  refine R.call 42 f47 rfl rfl (by decide) (by kernel_rfl) (f47.yes rfl rfl) (run_call Try.call25 (args1 f47 rfl)) (textR_any _ _) ?_
  clear f44 f45 a44 f46 a46
  rintro e w8 ⟨kc8, rfl⟩
  have szw8 := kc8.size
  replace HK := HK.z kc8
  replace Bg0 := Bg0.z kc8
  replace IB := IB.kept kc8
  refine ⟨_, rfl, ⟨HK, Bg0⟩, fun a48 f48 => ?_⟩
  clear f47 a47 kc8
  refine R.u 43 f48 rfl ht ⟨HK, Bg0⟩ (fun W hW => (E.not f48 rfl)) (hw := (f48.yes rfl rfl)) fun a49 f49 => ?_
  refine R.u 44 f49 rfl ht ⟨HK, Bg0⟩ (fun W hW => (E.pickF f49 rfl rfl)) fun a50 f50 => ?_
  refine R.u 45 f50 rfl ht ⟨HK, Bg0⟩ (fun W hW => (E.move f50 rfl)) fun a51 f51 => ?_
  clear f48 a48 f49 a49 f50 a50
  refine f51.splitNB 50 rfl (fun h15 f52 => ?_) (fun h15 f52 => ?_)
  ·as_aux_lemma =>
   refine R.runT [46, 47, 48, 49, 50, 51, 52, 53, 54, 55, 56, 57, 58, 59, 60, 61, 62, 63, 64, 65, 66, 67, 68, 69, 70, 71] (tf 72 []) f52 ht (fun _ _ _ _ h => h) ⟨HK, Bg0⟩ (by kernel_rfl) fun a53 f53 => ?_
   have f54 := f53.sub (scT f53 1 (sv 76 (.bool true) sn))
   refine R.done (by kernel_rfl) (hK1 _ _ ?_)
   have f55 := f54.sub (sc 1 (sc 76 sn))
   refine C.condT f55 rfl ?_
   refine C.sk fun K16 hK16 => ?_
   refine L.ag f55 fun a56 f56 => ?_
   have f57 := f56.sub (sc 2 sn)
   refine wpList_nil (hK16 _ _ (wp_ret ?_)); (try simp only [xt, xb]); refine C.ret f57 rfl rfl ?_
   exact ⟨HK, by rw [rightR_eq]; (simp [A1, *]; done)⟩
  refine R.u 46 f52 rfl ht ⟨HK, Bg0⟩ (fun W hW => (E.fa 12 f52 U34 rfl wsz30_wd)) (hw := (f52.yes rfl rfl)) fun a53 f53 => ?_
  refine R.u 47 f53 rfl ht ⟨HK, Bg0⟩ (fun W hW => (E.fa 0 f53 U30 rfl wsz9_wd)) (hw := (f53.yes rfl rfl)) fun a54 f54 => ?_
  refine R.u 48 f54 rfl ht ⟨HK, Bg0⟩ (fun W hW => (E.ld f54 U9 (hW.2))) (hw := (f54.yes rfl rfl)) fun a55 f55 => ?_
  refine R.call 49 f55 rfl rfl (by decide) (by kernel_rfl) (f55.yes rfl rfl) (run_call Try.call25 (args1 f55 rfl)) (textR_any _ _) ?_
  clear f51 f52 a51 f53 a53 f54 a54
  rintro e w9 ⟨kc9, rfl⟩
  have szw9 := kc9.size
  replace HK := HK.z kc9
  replace Bg0 := Bg0.z kc9
  replace IB := IB.kept kc9
  refine ⟨_, rfl, ⟨HK, Bg0⟩, fun a56 f56 => ?_⟩
  clear f55 a55 kc9
  refine R.u 50 f56 rfl ht ⟨HK, Bg0⟩ (fun W hW => (E.not f56 rfl)) (hw := (f56.yes rfl rfl)) fun a57 f57 => ?_
  refine R.u 51 f57 rfl ht ⟨HK, Bg0⟩ (fun W hW => (E.pickF f57 rfl rfl)) fun a58 f58 => ?_
  refine R.u 52 f58 rfl ht ⟨HK, Bg0⟩ (fun W hW => (E.move f58 rfl)) fun a59 f59 => ?_
  clear f56 a56 f57 a57 f58 a58
  refine f59.splitNB 57 rfl (fun h16 f60 => ?_) (fun h16 f60 => ?_)
  ·as_aux_lemma =>
   refine R.runT [53, 54, 55, 56, 57, 58, 59, 60, 61, 62, 63, 64, 65, 66, 67, 68, 69, 70, 71] (tf 72 []) f60 ht (fun _ _ _ _ h => h) ⟨HK, Bg0⟩ (by kernel_rfl) fun a61 f61 => ?_
   have f62 := f61.sub (scT f61 1 (sv 76 (.bool true) sn))
   refine R.done (by kernel_rfl) (hK1 _ _ ?_)
   have f63 := f62.sub (sc 1 (sc 76 sn))
   refine C.condT f63 rfl ?_
   refine C.sk fun K17 hK17 => ?_
   refine L.ag f63 fun a64 f64 => ?_
   have f65 := f64.sub (sc 2 sn)
   refine wpList_nil (hK17 _ _ (wp_ret ?_)); (try simp only [xt, xb]); refine C.ret f65 rfl rfl ?_
   exact ⟨HK, by rw [rightR_eq]; (simp [A1, *]; done)⟩
  refine R.u 53 f60 rfl ht ⟨HK, Bg0⟩ (fun W hW => (E.fa 12 f60 U34 rfl wsz30_wd)) (hw := (f60.yes rfl rfl)) fun a61 f61 => ?_
  refine R.u 54 f61 rfl ht ⟨HK, Bg0⟩ (fun W hW => (E.fa 2 f61 U30 rfl wsz3_wd)) (hw := (f61.yes rfl rfl)) fun a62 f62 => ?_
  refine R.u 55 f62 rfl ht ⟨HK, Bg0⟩ (fun W hW => (E.ld f62 U3 (hW.2))) (hw := (f62.yes rfl rfl)) fun a63 f63 => ?_
  refine R.call 56 f63 rfl rfl (by decide) (by kernel_rfl) (f63.yes rfl rfl) (run_call Try.call21 (args3 f63 rfl rfl rfl)) (inR_any _ _ _ _) ?_
  clear f59 f60 a59 f61 a61 f62 a62
  rintro e w9x ⟨rfl, rfl⟩
  refine ⟨_, rfl, ⟨HK, Bg0⟩, fun a64 f64 => ?_⟩
  refine R.u 57 f64 rfl ht ⟨HK, Bg0⟩ (fun W hW => (E.not f64 rfl)) (hw := (f64.yes rfl rfl)) fun a65 f65 => ?_
  refine R.u 58 f65 rfl ht ⟨HK, Bg0⟩ (fun W hW => (E.pickF f65 rfl rfl)) fun a66 f66 => ?_
  refine R.u 59 f66 rfl ht ⟨HK, Bg0⟩ (fun W hW => (E.move f66 rfl)) fun a67 f67 => ?_
  clear f63 a63 f64 a64 f65 a65 f66 a66
  refine f67.splitNB 64 rfl (fun h17 f68 => ?_) (fun h17 f68 => ?_)
  ·as_aux_lemma =>
   refine R.runT [60, 61, 62, 63, 64, 65, 66, 67, 68, 69, 70, 71] (tf 72 []) f68 ht (fun _ _ _ _ h => h) ⟨HK, Bg0⟩ (by kernel_rfl) fun a69 f69 => ?_
   have f70 := f69.sub (scT f69 1 (sv 76 (.bool true) sn))
   refine R.done (by kernel_rfl) (hK1 _ _ ?_)
   have f71 := f70.sub (sc 1 (sc 76 sn))
   refine C.condT f71 rfl ?_
   refine C.sk fun K18 hK18 => ?_
   refine L.ag f71 fun a72 f72 => ?_
   have f73 := f72.sub (sc 2 sn)
   refine wpList_nil (hK18 _ _ (wp_ret ?_)); (try simp only [xt, xb]); refine C.ret f73 rfl rfl ?_
   exact ⟨HK, by rw [rightR_eq]; (simp [A1, *]; done)⟩
  refine R.u 60 f68 rfl ht ⟨HK, Bg0⟩ (fun W hW => (E.fa 12 f68 U34 rfl wsz30_wd)) (hw := (f68.yes rfl rfl)) fun a69 f69 => ?_
  refine R.u 61 f69 rfl ht ⟨HK, Bg0⟩ (fun W hW => (E.fa 1 f69 U30 rfl wsz28_wd)) (hw := (f69.yes rfl rfl)) fun a70 f70 => ?_
  refine R.u 62 f70 rfl ht ⟨HK, Bg0⟩ (fun W hW => (E.ld f70 U28 (hW.2))) (hw := (f70.yes rfl rfl)) fun a71 f71 => ?_
  refine R.u 63 f71 rfl ht ⟨HK, Bg0⟩ (fun W hW => (E.lenL f71 U28 rfl)) (hw := (f71.yes rfl rfl)) fun a72 f72 => ?_
  refine R.u 64 f72 rfl ht ⟨HK, Bg0⟩ (fun W hW => (E.gtr f72 rfl rfl)) (hw := (f72.yes rfl rfl)) fun a73 f73 => ?_
  refine R.u 65 f73 rfl ht ⟨HK, Bg0⟩ (fun W hW => (E.pickF f73 rfl rfl)) fun a74 f74 => ?_
  refine R.u 66 f74 rfl ht ⟨HK, Bg0⟩ (fun W hW => (E.move f74 rfl)) fun a75 f75 => ?_
  clear f67 f68 a67 f69 a69 f70 a70 f71 a71 f72 a72 f73 a73 f74 a74
  refine f75.splitD 71 rfl (fun h18 f76 => ?_) (fun h18 f76 => ?_)
  ·as_aux_lemma =>
   have hlw : ¬ p.wp.length ≤ 65535 := by omega
   refine R.runT [67, 68, 69, 70, 71] (tf 72 []) f76 ht (fun _ _ _ _ h => h) ⟨HK, Bg0⟩ (by kernel_rfl) fun a77 f77 => ?_
   have f78 := f77.sub (scT f77 1 (sv 76 (.bool true) sn))
   refine R.done (by kernel_rfl) (hK1 _ _ ?_)
   have f79 := f78.sub (sc 1 (sc 76 sn))
   refine C.condT f79 rfl ?_
   refine C.sk fun K19 hK19 => ?_
   refine L.ag f79 fun a80 f80 => ?_
   have f81 := f80.sub (sc 2 sn)
   refine wpList_nil (hK19 _ _ (wp_ret ?_)); (try simp only [xt, xb]); refine C.ret f81 rfl rfl ?_
   exact ⟨HK, by rw [rightR_eq]; (simp [A1, *]; done)⟩
  have hlw : p.wp.length ≤ 65535 := by omega
  refine R.u 67 f76 rfl ht ⟨HK, Bg0⟩ (fun W hW => (E.fa 19 f76 U34 rfl wsz28_wd)) (hw := (f76.yes rfl rfl)) fun a77 f77 => ?_
  refine R.u 68 f77 rfl ht ⟨HK, Bg0⟩ (fun W hW => (E.ld f77 U28 (hW.2))) (hw := (f77.yes rfl rfl)) fun a78 f78 => ?_
  refine R.u 69 f78 rfl ht ⟨HK, Bg0⟩ (fun W hW => (E.lenL f78 U28 rfl)) (hw := (f78.yes rfl rfl)) fun a79 f79 => ?_
  refine R.u 70 f79 rfl ht ⟨HK, Bg0⟩ (fun W hW => (E.gtr f79 rfl rfl)) (hw := (f79.yes rfl rfl)) fun a80 f80 => ?_
  refine R.u 71 f80 rfl ht ⟨HK, Bg0⟩ (fun W hW => (E.pickF f80 rfl rfl)) fun a81 f81 => ?_
  refine R.done (by kernel_rfl) (hK1 _ _ ?_)
  have f82 := f81.sub (sc 1 (sc 76 sn))
  clear f75 f76 a75 f77 a77 f78 a78 f79 a79 f80 a80 f81
  refine f82.splitD 76 rfl (fun h19 f83 => ?_) (fun h19 f83 => ?_)
  ·as_aux_lemma =>
   have hlp : ¬ p.pass.length ≤ 65535 := by omega
   refine C.condT f83 rfl ?_
   refine C.sk fun K20 hK20 => ?_
   refine L.ag f83 fun a84 f84 => ?_
   have f85 := f84.sub (sc 2 sn)
   refine wpList_nil (hK20 _ _ (wp_ret ?_)); (try simp only [xt, xb]); refine C.ret f85 rfl rfl ?_
   exact ⟨HK, by rw [rightR_eq]; (simp [A1, *]; done)⟩
  have hlp : p.pass.length ≤ 65535 := by omega
  refine C.condF f83 rfl ?_
  exact wp_skip (jn J3 (by rw [hJ3]; exact ⟨HK, Bg0, by simp [A1, *], by assumption, f83.sub (sx sn)⟩))
 as_aux_lemma =>
 intro a5 w2 hj
 rw [hJ3] at hj
 clear hJ3 J3
 obtain ⟨HK, Bg0, hA1, hwq, f5⟩ := hj
 try clear f4
 obtain ⟨J5, hJ5⟩ : ∃ J : Act → World → Prop, J = fun a W => Kept [] w W ∧ Blk W g0 34 (p.cells s) ∧ A1 p = true ∧ inB p.wq 0 2 = true ∧ A2 p = true ∧ Fr 201 a [(1, .pointer (some ⟨g0, 0, none⟩))] := ⟨_, rfl⟩
 refine C.cut J5 ?_ ?_
 ·as_aux_lemma =>
  refine C.sk fun K21 hK21 => ?_
  refine L.fa 7 f5 U34 rfl wsz3_wd fun a6 f6 => ?_
  refine L.ld f6 U3 Bg0 fun a7 f7 => ?_
  refine L.cl f7 (run_call Try.call21 (args3 f7 rfl rfl rfl)) (inR_any _ _ _ _) ?_
  clear f5 a5 f6 a6
  rintro e w2x ⟨rfl, rfl⟩
  refine ⟨_, rfl, fun a8 f8 => ?_⟩
  refine L.va f8 (E.not f8 rfl) fun a9 f9 => ?_
  refine L.mv f9 fun a10 f10 => ?_
  clear f7 a7 f8 a8 f9 a9
  refine f10.splitNB 81 rfl (fun h20 f11 => ?_) (fun h20 f11 => ?_)
  ·as_aux_lemma =>
   refine L.run f11 (rest' := []) (by kernel_rfl) fun a12 f12 => ?_
   clear f10
   refine wpList_nil (hK21 _ _ ?_)
   have f13 := f12.sub (scR f12 1 (sv 110 (.bool true) sn))
   refine C.condT f13 rfl ?_
   refine C.sk fun K22 hK22 => ?_
   refine L.ag f13 fun a14 f14 => ?_
   have f15 := f14.sub (sc 2 sn)
   refine wpList_nil (hK22 _ _ (wp_ret ?_)); (try simp only [xt, xb]); refine C.ret f15 rfl rfl ?_
   exact ⟨HK, by rw [rightR_eq]; (simp [A2, *]; done)⟩
  refine L.fa 10 f11 U34 rfl wsz3_wd (hw := (f11.yes rfl rfl)) fun a12 f12 => ?_
  refine L.ld f12 U3 Bg0 (hw := (f12.yes rfl rfl)) fun a13 f13 => ?_
  refine L.cl f13 (run_call Try.call21 (args3 f13 rfl rfl rfl)) (inR_any _ _ _ _) ?_ (hw := (f13.yes rfl rfl))
  clear f10 f11 a10 f12 a12
  rintro e w2x ⟨rfl, rfl⟩
  refine ⟨_, rfl, fun a14 f14 => ?_⟩
  refine L.va f14 (E.not f14 rfl) (hw := (f14.yes rfl rfl)) fun a15 f15 => ?_
  refine L.va f15 (E.pickF f15 rfl rfl) fun a16 f16 => ?_
  refine L.mv f16 fun a17 f17 => ?_
  clear f13 a13 f14 a14 f15 a15 f16 a16
  refine f17.splitNB 87 rfl (fun h21 f18 => ?_) (fun h21 f18 => ?_)
  ·as_aux_lemma =>
   refine L.run f18 (rest' := []) (by kernel_rfl) fun a19 f19 => ?_
   clear f17
   refine wpList_nil (hK21 _ _ ?_)
   have f20 := f19.sub (scR f19 1 (sv 110 (.bool true) sn))
   refine C.condT f20 rfl ?_
   refine C.sk fun K23 hK23 => ?_
   refine L.ag f20 fun a21 f21 => ?_
   have f22 := f21.sub (sc 2 sn)
   refine wpList_nil (hK23 _ _ (wp_ret ?_)); (try simp only [xt, xb]); refine C.ret f22 rfl rfl ?_
   exact ⟨HK, by rw [rightR_eq]; (simp [A2, *]; done)⟩
  refine L.fa 17 f18 U34 rfl wsz4_wd (hw := (f18.yes rfl rfl)) fun a19 f19 => ?_
  refine L.ld f19 U4 Bg0 (hw := (f19.yes rfl rfl)) fun a20 f20 => ?_
  refine L.mv f20 (hw := (f20.yes rfl rfl)) fun a21 f21 => ?_
  clear f17 f18 a17 f19 a19 f20 a20
  refine f21.split 90 rfl (fun h22 f22 => ?_) (fun h22 f22 => ?_)
  ·as_aux_lemma =>
   refine L.fa 16 f22 U34 rfl wsz4_wd (hw := (f22.yes rfl rfl)) fun a23 f23 => ?_
   refine L.ld f23 U4 Bg0 (hw := (f23.yes rfl rfl)) fun a24 f24 => ?_
   refine L.va f24 (E.not f24 rfl) (hw := (f24.yes rfl rfl)) fun a25 f25 => ?_
   refine L.va f25 (E.pickT f25 rfl rfl) (hw := (f25.yes rfl rfl)) fun a26 f26 => ?_
   refine L.va f26 (E.pickF f26 rfl rfl) fun a27 f27 => ?_
   refine L.mv f27 fun a28 f28 => ?_
   clear f21 f22 a21 f23 a23 f24 a24 f25 a25 f26 a26 f27 a27
   refine f28.splitNB 96 rfl (fun h23 f29 => ?_) (fun h23 f29 => ?_)
   ·as_aux_lemma =>
    refine L.run f29 (rest' := []) (by kernel_rfl) fun a30 f30 => ?_
    clear f28
    refine wpList_nil (hK21 _ _ ?_)
    have f31 := f30.sub (scR f30 1 (sv 110 (.bool true) sn))
    refine C.condT f31 rfl ?_
    refine C.sk fun K24 hK24 => ?_
    refine L.ag f31 fun a32 f32 => ?_
    have f33 := f32.sub (sc 2 sn)
    refine wpList_nil (hK24 _ _ (wp_ret ?_)); (try simp only [xt, xb]); refine C.ret f33 rfl rfl ?_
    exact ⟨HK, by rw [rightR_eq]; (simp [A2, *]; done)⟩
   refine L.fa 21 f29 U34 rfl wsz3_wd (hw := (f29.yes rfl rfl)) fun a30 f30 => ?_
   refine L.ld f30 U3 Bg0 (hw := (f30.yes rfl rfl)) fun a31 f31 => ?_
   refine L.cl f31 (run_call Try.call21 (args3 f31 rfl rfl rfl)) (inR_any _ _ _ _) ?_ (hw := (f31.yes rfl rfl))
   clear f28 f29 a28 f30 a30
   rintro e w2x ⟨rfl, rfl⟩
   refine ⟨_, rfl, fun a32 f32 => ?_⟩
   refine L.va f32 (E.not f32 rfl) (hw := (f32.yes rfl rfl)) fun a33 f33 => ?_
   refine L.va f33 (E.pickF f33 rfl rfl) fun a34 f34 => ?_
   refine L.mv f34 fun a35 f35 => ?_
   clear f31 a31 f32 a32 f33 a33 f34 a34
   refine f35.splitNB 102 rfl (fun h24 f36 => ?_) (fun h24 f36 => ?_)
   ·as_aux_lemma =>
    refine L.run f36 (rest' := []) (by kernel_rfl) fun a37 f37 => ?_
    clear f35
    refine wpList_nil (hK21 _ _ ?_)
    have f38 := f37.sub (scR f37 1 (sv 110 (.bool true) sn))
    refine C.condT f38 rfl ?_
    refine C.sk fun K25 hK25 => ?_
    refine L.ag f38 fun a39 f39 => ?_
    have f40 := f39.sub (sc 2 sn)
    refine wpList_nil (hK25 _ _ (wp_ret ?_)); (try simp only [xt, xb]); refine C.ret f40 rfl rfl ?_
    exact ⟨HK, by rw [rightR_eq]; (simp [A2, *]; done)⟩
   refine L.fa 20 f36 U34 rfl wsz4_wd (hw := (f36.yes rfl rfl)) fun a37 f37 => ?_
   refine L.ld f37 U4 Bg0 (hw := (f37.yes rfl rfl)) fun a38 f38 => ?_
   refine L.mv f38 (hw := (f38.yes rfl rfl)) fun a39 f39 => ?_
   clear f35 f36 a35 f37 a37 f38 a38
   refine f39.split 105 rfl (fun h25 f40 => ?_) (fun h25 f40 => ?_)
   ·as_aux_lemma =>
    refine L.fa 21 f40 U34 rfl wsz3_wd (hw := (f40.yes rfl rfl)) fun a41 f41 => ?_
    refine L.ld f41 U3 Bg0 (hw := (f41.yes rfl rfl)) fun a42 f42 => ?_
    refine L.va f42 (E.neq f42 rfl rfl) (hw := (f42.yes rfl rfl)) fun a43 f43 => ?_
    refine L.va f43 (E.pickT f43 rfl rfl) (hw := (f43.yes rfl rfl)) fun a44 f44 => ?_
    refine L.va f44 (E.pickF f44 rfl rfl) fun a45 f45 => ?_
    refine wpList_nil (hK21 _ _ ?_)
    have f46 := f45.sub (sc 1 (sc 110 sn))
    clear f39 f40 a39 f41 a41 f42 a42 f43 a43 f44 a44 f45
    refine f46.splitN 110 rfl (fun h26 f47 => ?_) (fun h26 f47 => ?_)
    ·as_aux_lemma =>
     refine C.condT f47 rfl ?_
     refine C.sk fun K26 hK26 => ?_
     refine L.ag f47 fun a48 f48 => ?_
     have f49 := f48.sub (sc 2 sn)
     refine wpList_nil (hK26 _ _ (wp_ret ?_)); (try simp only [xt, xb]); refine C.ret f49 rfl rfl ?_
     exact ⟨HK, by rw [rightR_eq]; (simp [A2, *]; done)⟩
    refine C.condF f47 rfl ?_
    exact wp_skip (jn J5 (by rw [hJ5]; exact ⟨HK, Bg0, by assumption, by assumption, by (simp [A2, *]; decide), f47.sub (sx sn)⟩))
   refine L.run f40 (rest' := []) (by kernel_rfl) fun a41 f41 => ?_
   clear f39
   refine wpList_nil (hK21 _ _ ?_)
   have f42 := f41.sub (scR f41 1 (sv 110 (.bool false) sn))
   refine C.condF f42 rfl ?_
   exact wp_skip (jn J5 (by rw [hJ5]; exact ⟨HK, Bg0, by assumption, by assumption, by (simp [A2, *]; done), f42.sub (sx sn)⟩))
  refine L.sk f22 (f22.noT rfl rfl) fun a23 f23 => ?_
  refine L.sk f23 (f23.noT rfl rfl) fun a24 f24 => ?_
  refine L.sk f24 (f24.noT rfl rfl) fun a25 f25 => ?_
  refine L.va f25 (E.pickF f25 rfl rfl) (hw := (f25.yes rfl rfl)) fun a26 f26 => ?_
  refine L.va f26 (E.pickF f26 rfl rfl) fun a27 f27 => ?_
  refine L.mv f27 fun a28 f28 => ?_
  refine L.fa 21 f28 U34 rfl wsz3_wd (hw := (f28.yes rfl rfl)) fun a29 f29 => ?_
  clear f21 f22 a21 f23 a23 f24 a24 f25 a25 f26 a26 f27 a27 f28 a28
  refine L.ld f29 U3 Bg0 (hw := (f29.yes rfl rfl)) fun a30 f30 => ?_
  refine L.cl f30 (run_call Try.call21 (args3 f30 rfl rfl rfl)) (inR_any _ _ _ _) ?_ (hw := (f30.yes rfl rfl))
  clear f29 a29
  rintro e w2x ⟨rfl, rfl⟩
  refine ⟨_, rfl, fun a31 f31 => ?_⟩
  refine L.va f31 (E.not f31 rfl) (hw := (f31.yes rfl rfl)) fun a32 f32 => ?_
  refine L.va f32 (E.pickF f32 rfl rfl) fun a33 f33 => ?_
  refine L.mv f33 fun a34 f34 => ?_
  clear f30 a30 f31 a31 f32 a32 f33 a33
  refine f34.splitNB 102 rfl (fun h27 f35 => ?_) (fun h27 f35 => ?_)
  ·as_aux_lemma =>
   refine L.run f35 (rest' := []) (by kernel_rfl) fun a36 f36 => ?_
   clear f34
   refine wpList_nil (hK21 _ _ ?_)
   have f37 := f36.sub (scR f36 1 (sv 110 (.bool true) sn))
   refine C.condT f37 rfl ?_
   refine C.sk fun K27 hK27 => ?_
   refine L.ag f37 fun a38 f38 => ?_
   have f39 := f38.sub (sc 2 sn)
   refine wpList_nil (hK27 _ _ (wp_ret ?_)); (try simp only [xt, xb]); refine C.ret f39 rfl rfl ?_
   exact ⟨HK, by rw [rightR_eq]; (simp [A2, *]; done)⟩
  refine L.fa 20 f35 U34 rfl wsz4_wd (hw := (f35.yes rfl rfl)) fun a36 f36 => ?_
  refine L.ld f36 U4 Bg0 (hw := (f36.yes rfl rfl)) fun a37 f37 => ?_
  refine L.mv f37 (hw := (f37.yes rfl rfl)) fun a38 f38 => ?_
  clear f34 f35 a34 f36 a36 f37 a37
  refine f38.split 105 rfl (fun h28 f39 => ?_) (fun h28 f39 => ?_)
  ·as_aux_lemma =>
   refine L.fa 21 f39 U34 rfl wsz3_wd (hw := (f39.yes rfl rfl)) fun a40 f40 => ?_
   refine L.ld f40 U3 Bg0 (hw := (f40.yes rfl rfl)) fun a41 f41 => ?_
   refine L.va f41 (E.neq f41 rfl rfl) (hw := (f41.yes rfl rfl)) fun a42 f42 => ?_
   refine L.va f42 (E.pickT f42 rfl rfl) (hw := (f42.yes rfl rfl)) fun a43 f43 => ?_
   refine L.va f43 (E.pickF f43 rfl rfl) fun a44 f44 => ?_
   refine wpList_nil (hK21 _ _ ?_)
   have f45 := f44.sub (sc 1 (sc 110 sn))
   clear f38 f39 a38 f40 a40 f41 a41 f42 a42 f43 a43 f44
   refine f45.splitN 110 rfl (fun h29 f46 => ?_) (fun h29 f46 => ?_)
   ·as_aux_lemma =>
    refine C.condT f46 rfl ?_
    refine C.sk fun K28 hK28 => ?_
    refine L.ag f46 fun a47 f47 => ?_
    have f48 := f47.sub (sc 2 sn)
    refine wpList_nil (hK28 _ _ (wp_ret ?_)); (try simp only [xt, xb]); refine C.ret f48 rfl rfl ?_
    exact ⟨HK, by rw [rightR_eq]; (simp [A2, *]; done)⟩
   refine C.condF f46 rfl ?_
   exact wp_skip (jn J5 (by rw [hJ5]; exact ⟨HK, Bg0, by assumption, by assumption, by (simp [A2, *]; decide), f46.sub (sx sn)⟩))
  refine L.run f39 (rest' := []) (by kernel_rfl) fun a40 f40 => ?_
  clear f38
  refine wpList_nil (hK21 _ _ ?_)
  have f41 := f40.sub (scR f40 1 (sv 110 (.bool false) sn))
  refine C.condF f41 rfl ?_
  exact wp_skip (jn J5 (by rw [hJ5]; exact ⟨HK, Bg0, by assumption, by assumption, by (simp [A2, *]; done), f41.sub (sx sn)⟩))
 as_aux_lemma =>
 intro a6 w3 hj
 rw [hJ5] at hj
 clear hJ5 J5
 obtain ⟨HK, Bg0, hA1, hwq, hA2, f6⟩ := hj
 try clear f5
 obtain ⟨J10, hJ10⟩ : ∃ J : Act → World → Prop, J = fun a W => Kept [] w W ∧ Blk W g0 34 (p.cells s) ∧ A1 p = true ∧ inB p.wq 0 2 = true ∧ A2 p = true ∧ subRB p = true ∧ Fr 201 a [(1, .pointer (some ⟨g0, 0, none⟩))] := ⟨_, rfl⟩
 refine C.cut J10 ?_ ?_
 ·as_aux_lemma =>
  refine C.sk fun K29 hK29 => ?_
  refine L.ag f6 fun a7 f7 => ?_
  refine wpList_nil (hK29 _ _ ?_)
  have f8 := f7.sub (sc 1 (sc 3 sn))
  refine wp_block ?_
  clear f6 a6 f7
  refine C.loop (fun gk a W => ∃ k : Nat, k + gk = p.subs.length ∧ Kept [] w W ∧ Blk W g0 34 (p.cells s) ∧ (∀ x ∈ p.subs.take k, (txB x.1 && inB x.2 0 2 && (!decide (p.kind = 10) || decide (x.2 = 0))) = true) ∧ Fr 201 a [(1, .pointer (some ⟨g0, 0, none⟩)), (3, .int .i64 k)]) (p.subs.length) ?_ ?_
  ·exact ⟨0, by omega, HK, Bg0, by simp, f8.sub (sx (sx sn))⟩
  intro gk31 a9 w4 hI KL30 hKL30
  obtain ⟨k, hk, HK, Bg0, hq0, f9⟩ := hI
  try clear f8
  refine wp_seq_k fun K31 hK31 => ?_
  refine C.sk fun K32 hK32 => ?_
  refine L.mv f9 fun a10 f10 => ?_
  refine L.fa 22 f10 U34 rfl wsz31_wd fun a11 f11 => ?_
  refine L.ld f11 U31 Bg0 fun a12 f12 => ?_
  refine L.va f12 (E.lenL f12 U31 rfl) fun a13 f13 => ?_
  refine L.va f13 (E.lss f13 rfl rfl) fun a14 f14 => ?_
  refine wpList_nil (hK32 _ _ ?_)
  have f15 := f14.sub (sc 1 (sc 3 (sc 115 sn)))
  clear f9 a9 f10 a10 f11 a11 f12 a12 f13 a13 f14
  refine f15.splitD 115 rfl (fun h30 f16 => ?_) (fun h30 f16 => ?_)
  ·as_aux_lemma =>
   have hL1_ := hL.subs
   obtain ⟨d, hd⟩ := some_at p.subs k (by omega)
   obtain ⟨bk, off, hA⟩ := IP.subs.addr (by omega)
   refine C.condT f16 rfl ?_
   refine wp_skip (hK31 _ _ ?_)
   have f17 := f16.sub (sc 1 (sc 3 sn))
   refine wp_seq_k fun K33 hK33 => ?_
   refine wp_block ?_
   refine C.sk fun K34 hK34 => ?_
   refine L.fa 22 f17 U34 rfl wsz31_wd fun a18 f18 => ?_
   refine L.ld f18 U31 Bg0 fun a19 f19 => ?_
   refine L.mv f19 fun a20 f20 => ?_
   refine L.va f20 (E.indexA f20 (by assumption) U31 wsz46_wd rfl rfl (by omega) (by omega)) fun a21 f21 => ?_
   refine L.va f21 (E.fa 0 f21 Try.underlying46 rfl wsz9_wd) fun a22 f22 => ?_
   refine L.va f22 (E.load f22 U9 rfl rfl (sub_cell0 (IP.subs.kept HK) hA hd)) fun a23 f23 => ?_
   clear f15 f16 f17 a14 f18 a18 f19 a19 f20 a20 f21 a21 f22 a22
   refine L.cl f23 (run_call Try.call25 (args1 f23 rfl)) (textR_any _ _) ?_
   rintro e w5 ⟨kc5, rfl⟩
   refine ⟨_, rfl, fun a24 f24 => ?_⟩
   have szw5 := kc5.size
   replace HK := HK.z kc5
   replace Bg0 := Bg0.z kc5
   clear f23 a23 kc5
   refine L.va f24 (E.not f24 rfl) fun a25 f25 => ?_
   refine L.mv f25 fun a26 f26 => ?_
   clear f24 a24 f25 a25
   refine f26.splitNB 126 rfl (fun h31 f27 => ?_) (fun h31 f27 => ?_)
   ·as_aux_lemma =>
    refine L.run f27 (rest' := []) (by kernel_rfl) fun a28 f28 => ?_
    clear f26
    refine wpList_nil (hK34 _ _ ?_)
    have f29 := f28.sub (scR f28 1 (scR f28 3 (sv 149 (.bool true) sn)))
    refine C.condT f29 rfl ?_
    refine C.sk fun K35 hK35 => ?_
    refine L.ag f29 fun a30 f30 => ?_
    have f31 := f30.sub (sc 2 sn)
    refine wpList_nil (hK35 _ _ (wp_ret ?_)); (try simp only [xt, xb]); refine C.ret f31 rfl rfl ?_
    exact ⟨HK, by rw [rightR_eq]; (have hsf : subRB p = false := List.all_eq_false.2 ⟨d, List.mem_of_getElem? hd, by simp [*]⟩; simp [hsf]; done)⟩
   refine L.fa 22 f27 U34 rfl wsz31_wd (hw := (f27.yes rfl rfl)) fun a28 f28 => ?_
   refine L.ld f28 U31 Bg0 (hw := (f28.yes rfl rfl)) fun a29 f29 => ?_
   refine L.mv f29 (hw := (f29.yes rfl rfl)) fun a30 f30 => ?_
   refine L.va f30 (E.indexA f30 (by assumption) U31 wsz46_wd rfl rfl (by omega) (by omega)) (hw := (f30.yes rfl rfl)) fun a31 f31 => ?_
   refine L.va f31 (E.fa 1 f31 Try.underlying46 rfl wsz3_wd) (hw := (f31.yes rfl rfl)) fun a32 f32 => ?_
   refine L.va f32 (E.load f32 U3 rfl rfl (sub_cell1 (IP.subs.kept HK) hA hd)) (hw := (f32.yes rfl rfl)) fun a33 f33 => ?_
   refine L.cl f33 (run_call Try.call21 (args3 f33 rfl rfl rfl)) (inR_any _ _ _ _) ?_ (hw := (f33.yes rfl rfl))
   clear f26 f27 a26 f28 a28 f29 a29 f30 a30 f31 a31 f32 a32
   rintro e w5x ⟨rfl, rfl⟩
   refine ⟨_, rfl, fun a34 f34 => ?_⟩
   refine L.va f34 (E.not f34 rfl) (hw := (f34.yes rfl rfl)) fun a35 f35 => ?_
   refine L.va f35 (E.pickF f35 rfl rfl) fun a36 f36 => ?_
   refine L.mv f36 fun a37 f37 => ?_
   clear f33 a33 f34 a34 f35 a35 f36 a36
   refine f37.splitNB 136 rfl (fun h32 f38 => ?_) (fun h32 f38 => ?_)
   ·as_aux_lemma =>
    refine L.run f38 (rest' := []) (by kernel_rfl) fun a39 f39 => ?_
    clear f37
    refine wpList_nil (hK34 _ _ ?_)
    have f40 := f39.sub (scR f39 1 (scR f39 3 (sv 149 (.bool true) sn)))
    refine C.condT f40 rfl ?_
    refine C.sk fun K36 hK36 => ?_
    refine L.ag f40 fun a41 f41 => ?_
    have f42 := f41.sub (sc 2 sn)
    refine wpList_nil (hK36 _ _ (wp_ret ?_)); (try simp only [xt, xb]); refine C.ret f42 rfl rfl ?_
    exact ⟨HK, by rw [rightR_eq]; (have hsf : subRB p = false := List.all_eq_false.2 ⟨d, List.mem_of_getElem? hd, by simp [*]⟩; simp [hsf]; done)⟩
   refine L.fa 0 f38 U34 rfl wsz3_wd (hw := (f38.yes rfl rfl)) fun a39 f39 => ?_
   refine L.ld f39 U3 Bg0 (hw := (f39.yes rfl rfl)) fun a40 f40 => ?_
   refine L.va f40 (E.eq f40) (hw := (f40.yes rfl rfl)) fun a41 f41 => ?_
   refine L.mv f41 (hw := (f41.yes rfl rfl)) fun a42 f42 => ?_
   clear f37 f38 a37 f39 a39 f40 a40 f41 a41
   refine f42.splitD 140 rfl (fun h33 f43 => ?_) (fun h33 f43 => ?_)
   ·as_aux_lemma =>
    refine L.fa 22 f43 U34 rfl wsz31_wd (hw := (f43.yes rfl rfl)) fun a44 f44 => ?_
    refine L.ld f44 U31 Bg0 (hw := (f44.yes rfl rfl)) fun a45 f45 => ?_
    refine L.mv f45 (hw := (f45.yes rfl rfl)) fun a46 f46 => ?_
    refine L.va f46 (E.indexA f46 (by assumption) U31 wsz46_wd rfl rfl (by omega) (by omega)) (hw := (f46.yes rfl rfl)) fun a47 f47 => ?_
    refine L.va f47 (E.fa 1 f47 Try.underlying46 rfl wsz3_wd) (hw := (f47.yes rfl rfl)) fun a48 f48 => ?_
    refine L.va f48 (E.load f48 U3 rfl rfl (sub_cell1 (IP.subs.kept HK) hA hd)) (hw := (f48.yes rfl rfl)) fun a49 f49 => ?_
    refine L.va f49 (E.neq f49 rfl rfl) (hw := (f49.yes rfl rfl)) fun a50 f50 => ?_
    clear f42 f43 a42 f44 a44 f45 a45 f46 a46 f47 a47 f48 a48 f49 a49
    refine L.va f50 (E.pickT f50 rfl rfl) (hw := (f50.yes rfl rfl)) fun a51 f51 => ?_
    refine L.va f51 (E.pickF f51 rfl rfl) fun a52 f52 => ?_
    refine wpList_nil (hK34 _ _ ?_)
    have f53 := f52.sub (sc 1 (sc 3 (sc 149 sn)))
    clear f50 a50 f51 a51 f52
    refine f53.splitN 149 rfl (fun h34 f54 => ?_) (fun h34 f54 => ?_)
    ·as_aux_lemma =>
     refine C.condT f54 rfl ?_
     refine C.sk fun K37 hK37 => ?_
     refine L.ag f54 fun a55 f55 => ?_
     have f56 := f55.sub (sc 2 sn)
     refine wpList_nil (hK37 _ _ (wp_ret ?_)); (try simp only [xt, xb]); refine C.ret f56 rfl rfl ?_
     have hsf : subRB p = false := List.all_eq_false.2 ⟨d, List.mem_of_getElem? hd, by simp [*]⟩
     exact ⟨HK, by rw [rightR_eq]; simp [hsf]⟩
    refine C.condF f54 rfl ?_
    refine wp_skip (hK33 _ _ ?_)
    have f55 := f54.sub (sc 1 (sc 3 sn))
    refine C.region ?_
    refine L.mv f55 fun a56 f56 => ?_
    refine L.va f56 (E.add f56 rfl rfl (IntWalk.i64_in _ (by omega))) fun a57 f57 => ?_
    refine L.ag f57 fun a58 f58 => ?_
    clear f53 f54 f55 a52 f56 a56 f57 a57
    refine wpList_nil (hKL30 _ _ (gk31 - 1) ?_ ?_)
    ·omega
    exact ⟨k + 1, by omega, HK, Bg0, in_take hq0 hd (by (simp [*]; decide)), f58.sub (sx (sx sn))⟩
   refine L.run f43 (rest' := []) (by kernel_rfl) fun a44 f44 => ?_
   clear f42
   refine wpList_nil (hK34 _ _ ?_)
   have f45 := f44.sub (scR f44 1 (scR f44 3 (sv 149 (.bool false) sn)))
   refine C.condF f45 rfl ?_
   refine wp_skip (hK33 _ _ ?_)
   have f46 := f45.sub (sc 1 (sc 3 sn))
   refine C.region ?_
   refine L.mv f46 fun a47 f47 => ?_
   refine L.va f47 (E.add f47 rfl rfl (IntWalk.i64_in _ (by omega))) fun a48 f48 => ?_
   refine L.ag f48 fun a49 f49 => ?_
   clear f44 f43 f45 f46 a44 f47 a47 f48 a48
   refine wpList_nil (hKL30 _ _ (gk31 - 1) ?_ ?_)
   ·omega
   exact ⟨k + 1, by omega, HK, Bg0, in_take hq0 hd (by (simp [*]; done)), f49.sub (sx (sx sn))⟩
  have hsub : subRB p = true := List.all_eq_true.2 (all_take hq0 (by omega))
  refine C.condF f16 rfl ?_
  exact wp_exit (jn J10 (by rw [hJ10]; exact ⟨HK, Bg0, by assumption, by assumption, by assumption, hsub, f16.sub (sx sn)⟩))
 as_aux_lemma =>
 intro a7 w4 hj
 rw [hJ10] at hj
 clear hJ10 J10
 obtain ⟨HK, Bg0, hA1, hwq, hA2, hsub, f7⟩ := hj
 try clear f6
 obtain ⟨J15, hJ15⟩ : ∃ J : Act → World → Prop, J = fun a W => Kept [] w W ∧ Blk W g0 34 (p.cells s) ∧ A1 p = true ∧ inB p.wq 0 2 = true ∧ A2 p = true ∧ subRB p = true ∧ codB p.codes = true ∧ Fr 201 a [(1, .pointer (some ⟨g0, 0, none⟩))] := ⟨_, rfl⟩
 refine C.cut J15 ?_ ?_
 ·as_aux_lemma =>
  refine C.sk fun K38 hK38 => ?_
  refine L.ag f7 fun a8 f8 => ?_
  refine wpList_nil (hK38 _ _ ?_)
  have f9 := f8.sub (sc 1 (sc 4 sn))
  refine wp_block ?_
  clear f7 a7 f8
  refine C.loop (fun gk a W => ∃ k : Nat, k + gk = p.codes.length ∧ Kept [] w W ∧ Blk W g0 34 (p.cells s) ∧ (∀ x ∈ p.codes.take k, (inB x 0 2 || decide (x = 128)) = true) ∧ Fr 201 a [(1, .pointer (some ⟨g0, 0, none⟩)), (4, .int .i64 k)]) (p.codes.length) ?_ ?_
  ·exact ⟨0, by omega, HK, Bg0, by simp, f9.sub (sx (sx sn))⟩
  intro gk40 a10 w5 hI KL39 hKL39
  obtain ⟨k, hk, HK, Bg0, hq1, f10⟩ := hI
  try clear f9
  refine wp_seq_k fun K40 hK40 => ?_
  refine C.sk fun K41 hK41 => ?_
  refine L.mv f10 fun a11 f11 => ?_
  refine L.fa 23 f11 U34 rfl wsz32_wd fun a12 f12 => ?_
  refine L.ld f12 U32 Bg0 fun a13 f13 => ?_
  refine L.va f13 (E.lenL f13 U32 rfl) fun a14 f14 => ?_
  refine L.va f14 (E.lss f14 rfl rfl) fun a15 f15 => ?_
  refine wpList_nil (hK41 _ _ ?_)
  have f16 := f15.sub (sc 1 (sc 4 (sc 154 sn)))
  clear f10 a10 f11 a11 f12 a12 f13 a13 f14 a14 f15
  refine f16.splitD 154 rfl (fun h35 f17 => ?_) (fun h35 f17 => ?_)
  ·as_aux_lemma =>
   have hL2_ := hL.codes
   obtain ⟨d, hd⟩ := some_at p.codes k (by omega)
   obtain ⟨bk, off, hA⟩ := IP.codes.addr (by omega)
   refine C.condT f17 rfl ?_
   refine wp_skip (hK40 _ _ ?_)
   have f18 := f17.sub (sc 1 (sc 4 sn))
   refine wp_seq_k fun K42 hK42 => ?_
   refine wp_block ?_
   refine C.sk fun K43 hK43 => ?_
   refine L.fa 23 f18 U34 rfl wsz32_wd fun a19 f19 => ?_
   refine L.ld f19 U32 Bg0 fun a20 f20 => ?_
   refine L.mv f20 fun a21 f21 => ?_
   refine L.va f21 (E.indexA f21 (by assumption) U32 wsz3_wd rfl rfl (by omega) (by omega)) fun a22 f22 => ?_
   refine L.va f22 (E.load f22 U3 rfl rfl (code_cell1 (IP.codes.kept HK) hA hd)) fun a23 f23 => ?_
   refine L.cl f23 (run_call Try.call21 (args3 f23 rfl rfl rfl)) (inR_any _ _ _ _) ?_
   clear f16 f17 f18 a15 f19 a19 f20 a20 f21 a21 f22 a22
   rintro e w5x ⟨rfl, rfl⟩
   refine ⟨_, rfl, fun a24 f24 => ?_⟩
   refine L.va f24 (E.not f24 rfl) fun a25 f25 => ?_
   refine L.mv f25 fun a26 f26 => ?_
   clear f23 a23 f24 a24 f25 a25
   refine f26.splitNB 164 rfl (fun h36 f27 => ?_) (fun h36 f27 => ?_)
   ·as_aux_lemma =>
    refine L.fa 23 f27 U34 rfl wsz32_wd (hw := (f27.yes rfl rfl)) fun a28 f28 => ?_
    refine L.ld f28 U32 Bg0 (hw := (f28.yes rfl rfl)) fun a29 f29 => ?_
    refine L.mv f29 (hw := (f29.yes rfl rfl)) fun a30 f30 => ?_
    refine L.va f30 (E.indexA f30 (by assumption) U32 wsz3_wd rfl rfl (by omega) (by omega)) (hw := (f30.yes rfl rfl)) fun a31 f31 => ?_
    refine L.va f31 (E.load f31 U3 rfl rfl (code_cell1 (IP.codes.kept HK) hA hd)) (hw := (f31.yes rfl rfl)) fun a32 f32 => ?_
    refine L.va f32 (E.neq f32 rfl rfl) (hw := (f32.yes rfl rfl)) fun a33 f33 => ?_
    refine L.va f33 (E.pickT f33 rfl rfl) fun a34 f34 => ?_
    clear f26 f27 a26 f28 a28 f29 a29 f30 a30 f31 a31 f32 a32 f33 a33
    refine wpList_nil (hK43 _ _ ?_)
    have f35 := f34.sub (sc 1 (sc 4 (sc 171 sn)))
    clear f34
    refine f35.splitN 171 rfl (fun h37 f36 => ?_) (fun h37 f36 => ?_)
    ·as_aux_lemma =>
     refine C.condT f36 rfl ?_
     refine C.sk fun K44 hK44 => ?_
     refine L.ag f36 fun a37 f37 => ?_
     have f38 := f37.sub (sc 2 sn)
     refine wpList_nil (hK44 _ _ (wp_ret ?_)); (try simp only [xt, xb]); refine C.ret f38 rfl rfl ?_
     have hcf : codB p.codes = false := codB_f (List.mem_of_getElem? hd) (by simp [*])
     exact ⟨HK, by rw [rightR_eq]; simp [hcf]⟩
    refine C.condF f36 rfl ?_
    refine wp_skip (hK42 _ _ ?_)
    have f37 := f36.sub (sc 1 (sc 4 sn))
    refine C.region ?_
    refine L.mv f37 fun a38 f38 => ?_
    refine L.va f38 (E.add f38 rfl rfl (IntWalk.i64_in _ (by omega))) fun a39 f39 => ?_
    refine L.ag f39 fun a40 f40 => ?_
    clear f35 f36 f37 a34 f38 a38 f39 a39
    refine wpList_nil (hKL39 _ _ (gk40 - 1) ?_ ?_)
    ·omega
    exact ⟨k + 1, by omega, HK, Bg0, in_take hq1 hd (by (simp [*]; done)), f40.sub (sx (sx sn))⟩
   refine L.run f27 (rest' := []) (by kernel_rfl) fun a28 f28 => ?_
   clear f26
   refine wpList_nil (hK43 _ _ ?_)
   have f29 := f28.sub (scR f28 1 (scR f28 4 (sv 171 (.bool false) sn)))
   refine C.condF f29 rfl ?_
   refine wp_skip (hK42 _ _ ?_)
   have f30 := f29.sub (sc 1 (sc 4 sn))
   refine C.region ?_
   refine L.mv f30 fun a31 f31 => ?_
   refine L.va f31 (E.add f31 rfl rfl (IntWalk.i64_in _ (by omega))) fun a32 f32 => ?_
   refine L.ag f32 fun a33 f33 => ?_
   clear f28 f27 f29 f30 a28 f31 a31 f32 a32
   refine wpList_nil (hKL39 _ _ (gk40 - 1) ?_ ?_)
   ·omega
   exact ⟨k + 1, by omega, HK, Bg0, in_take hq1 hd (by (simp [*]; done)), f33.sub (sx (sx sn))⟩
  have hcod : codB p.codes = true := codB_t (all_take hq1 (by omega))
  refine C.condF f17 rfl ?_
  exact wp_exit (jn J15 (by rw [hJ15]; exact ⟨HK, Bg0, by assumption, by assumption, by assumption, by assumption, hcod, f17.sub (sx sn)⟩))
 as_aux_lemma =>
 intro a8 w5 hj
 rw [hJ15] at hj
 clear hJ15 J15
 obtain ⟨HK, Bg0, hA1, hwq, hA2, hsub, hcod, f8⟩ := hj
 try clear f7
 obtain ⟨J17, hJ17⟩ : ∃ J : Act → World → Prop, J = fun a W => Kept [] w W ∧ Blk W g0 34 (p.cells s) ∧ A1 p = true ∧ inB p.wq 0 2 = true ∧ A2 p = true ∧ subRB p = true ∧ codB p.codes = true ∧ A3 p = true ∧ Fr 201 a [(1, .pointer (some ⟨g0, 0, none⟩))] := ⟨_, rfl⟩
 refine C.cut J17 ?_ ?_
 ·as_aux_lemma =>
  refine C.sk fun K45 hK45 => ?_
  refine L.fa 0 f8 U34 rfl wsz3_wd fun a9 f9 => ?_
  refine L.ld f9 U3 Bg0 fun a10 f10 => ?_
  refine L.va f10 (E.eq f10) fun a11 f11 => ?_
  refine L.mv f11 fun a12 f12 => ?_
  clear f8 a8 f9 a9 f10 a10 f11 a11
  refine f12.splitD 175 rfl (fun h38 f13 => ?_) (fun h38 f13 => ?_)
  ·as_aux_lemma =>
   refine L.sk f13 (f13.noF rfl rfl) fun a14 f14 => ?_
   refine L.sk f14 (f14.noF rfl rfl) fun a15 f15 => ?_
   refine L.sk f15 (f15.noF rfl rfl) fun a16 f16 => ?_
   refine L.va f16 (E.pickT f16 rfl rfl) fun a17 f17 => ?_
   refine L.mv f17 fun a18 f18 => ?_
   refine L.fa 22 f18 U34 rfl wsz31_wd (hw := (f18.yes rfl rfl)) fun a19 f19 => ?_
   refine L.ld f19 U31 Bg0 (hw := (f19.yes rfl rfl)) fun a20 f20 => ?_
   clear f12 f13 a12 f14 a14 f15 a15 f16 a16 f17 a17 f18 a18 f19 a19
   refine L.va f20 (E.lenL f20 U31 rfl) (hw := (f20.yes rfl rfl)) fun a21 f21 => ?_
   refine L.va f21 (E.eq f21) (hw := (f21.yes rfl rfl)) fun a22 f22 => ?_
   clear f20 a20 f21 a21
   refine f22.splitD 184 rfl (fun h39 f23 => ?_) (fun h39 f23 => ?_)
   ·as_aux_lemma =>
    have hls : ¬ 0 < p.subs.length := by omega
    refine L.va f23 (E.pickT f23 rfl rfl) fun a24 f24 => ?_
    refine L.mv f24 fun a25 f25 => ?_
    refine L.sk f25 (f25.noF rfl rfl) fun a26 f26 => ?_
    refine L.sk f26 (f26.noF rfl rfl) fun a27 f27 => ?_
    refine L.sk f27 (f27.noF rfl rfl) fun a28 f28 => ?_
    refine L.sk f28 (f28.noF rfl rfl) fun a29 f29 => ?_
    refine L.sk f29 (f29.noU rfl rfl) fun a30 f30 => ?_
    clear f22 f23 a22 f24 a24 f25 a25 f26 a26 f27 a27 f28 a28 f29 a29
    refine L.sk f30 (f30.noU rfl rfl) fun a31 f31 => ?_
    refine L.sk f31 (f31.noU rfl rfl) fun a32 f32 => ?_
    refine L.sk f32 (f32.noU rfl rfl) fun a33 f33 => ?_
    refine L.sk f33 (f33.noF rfl rfl) fun a34 f34 => ?_
    refine L.va f34 (E.pickT f34 rfl rfl) fun a35 f35 => ?_
    refine wpList_nil (hK45 _ _ ?_)
    have f36 := f35.sub (sc 1 (sc 196 sn))
    refine C.condT f36 rfl ?_
    refine C.sk fun K46 hK46 => ?_
    refine L.ag f36 fun a37 f37 => ?_
    have f38 := f37.sub (sc 2 sn)
    clear f30 a30 f31 a31 f32 a32 f33 a33 f34 a34 f35 f36 a35 f37
    refine wpList_nil (hK46 _ _ (wp_ret ?_)); (try simp only [xt, xb]); refine C.ret f38 rfl rfl ?_
    exact ⟨HK, by rw [rightR_eq]; (simp [A3, *]; done)⟩
   have hls : 0 < p.subs.length := by omega
   refine L.va f23 (E.pickT f23 rfl rfl) fun a24 f24 => ?_
   refine L.mv f24 fun a25 f25 => ?_
   refine L.fa 0 f25 U34 rfl wsz3_wd (hw := (f25.yes rfl rfl)) fun a26 f26 => ?_
   refine L.ld f26 U3 Bg0 (hw := (f26.yes rfl rfl)) fun a27 f27 => ?_
   refine L.va f27 (E.eq f27) (hw := (f27.yes rfl rfl)) fun a28 f28 => ?_
   refine L.mv f28 (hw := (f28.yes rfl rfl)) fun a29 f29 => ?_
   clear f22 f23 a22 f24 a24 f25 a25 f26 a26 f27 a27 f28 a28
   refine f29.splitD 190 rfl (fun h40 f30 => ?_) (fun h40 f30 => ?_)
   ·as_aux_lemma =>
    refine L.fa 23 f30 U34 rfl wsz32_wd (hw := (f30.yes rfl rfl)) fun a31 f31 => ?_
    refine L.ld f31 U32 Bg0 (hw := (f31.yes rfl rfl)) fun a32 f32 => ?_
    refine L.va f32 (E.lenL f32 U32 rfl) (hw := (f32.yes rfl rfl)) fun a33 f33 => ?_
    refine L.va f33 (E.eq f33) (hw := (f33.yes rfl rfl)) fun a34 f34 => ?_
    clear f29 f30 a29 f31 a31 f32 a32 f33 a33
    refine f34.splitD 194 rfl (fun h41 f35 => ?_) (fun h41 f35 => ?_)
    ·as_aux_lemma =>
     have hlc : ¬ 0 < p.codes.length := by omega
     refine L.va f35 (E.pickT f35 rfl rfl) (hw := (f35.yes rfl rfl)) fun a36 f36 => ?_
     refine L.va f36 (E.pickF f36 rfl rfl) fun a37 f37 => ?_
     refine wpList_nil (hK45 _ _ ?_)
     have f38 := f37.sub (sc 1 (sc 196 sn))
     refine C.condT f38 rfl ?_
     refine C.sk fun K47 hK47 => ?_
     refine L.ag f38 fun a39 f39 => ?_
     have f40 := f39.sub (sc 2 sn)
     refine wpList_nil (hK47 _ _ (wp_ret ?_)); (try simp only [xt, xb]); refine C.ret f40 rfl rfl ?_
     exact ⟨HK, by rw [rightR_eq]; (simp [*]; omega)⟩
    have hlc : 0 < p.codes.length := by omega
    refine L.va f35 (E.pickT f35 rfl rfl) (hw := (f35.yes rfl rfl)) fun a36 f36 => ?_
    refine L.va f36 (E.pickF f36 rfl rfl) fun a37 f37 => ?_
    refine wpList_nil (hK45 _ _ ?_)
    have f38 := f37.sub (sc 1 (sc 196 sn))
    refine C.condF f38 rfl ?_
    exact wp_skip (jn J17 (by rw [hJ17]; exact ⟨HK, Bg0, by assumption, by assumption, by assumption, by assumption, by assumption, by (simp [A3, *]; done), f38.sub (sx sn)⟩))
   refine L.sk f30 (f30.noT rfl rfl) fun a31 f31 => ?_
   refine L.sk f31 (f31.noT rfl rfl) fun a32 f32 => ?_
   refine L.sk f32 (f32.noT rfl rfl) fun a33 f33 => ?_
   refine L.sk f33 (f33.noT rfl rfl) fun a34 f34 => ?_
   refine L.va f34 (E.pickF f34 rfl rfl) (hw := (f34.yes rfl rfl)) fun a35 f35 => ?_
   refine L.va f35 (E.pickF f35 rfl rfl) fun a36 f36 => ?_
   refine wpList_nil (hK45 _ _ ?_)
   have f37 := f36.sub (sc 1 (sc 196 sn))
   clear f29 f30 a29 f31 a31 f32 a32 f33 a33 f34 a34 f35 a35 f36
   refine C.condF f37 rfl ?_
   exact wp_skip (jn J17 (by rw [hJ17]; exact ⟨HK, Bg0, by assumption, by assumption, by assumption, by assumption, by assumption, by (simp [A3, *]; done), f37.sub (sx sn)⟩))
  refine L.fa 0 f13 U34 rfl wsz3_wd (hw := (f13.yes rfl rfl)) fun a14 f14 => ?_
  refine L.ld f14 U3 Bg0 (hw := (f14.yes rfl rfl)) fun a15 f15 => ?_
  refine L.va f15 (E.eq f15) (hw := (f15.yes rfl rfl)) fun a16 f16 => ?_
  refine L.va f16 (E.pickF f16 rfl rfl) fun a17 f17 => ?_
  refine L.mv f17 fun a18 f18 => ?_
  clear f12 f13 a12 f14 a14 f15 a15 f16 a16 f17 a17
  refine f18.splitD 180 rfl (fun h42 f19 => ?_) (fun h42 f19 => ?_)
  ·as_aux_lemma =>
   refine L.fa 22 f19 U34 rfl wsz31_wd (hw := (f19.yes rfl rfl)) fun a20 f20 => ?_
   refine L.ld f20 U31 Bg0 (hw := (f20.yes rfl rfl)) fun a21 f21 => ?_
   refine L.va f21 (E.lenL f21 U31 rfl) (hw := (f21.yes rfl rfl)) fun a22 f22 => ?_
   refine L.va f22 (E.eq f22) (hw := (f22.yes rfl rfl)) fun a23 f23 => ?_
   clear f18 f19 a18 f20 a20 f21 a21 f22 a22
   refine f23.splitD 184 rfl (fun h43 f24 => ?_) (fun h43 f24 => ?_)
   ·as_aux_lemma =>
    have hls : ¬ 0 < p.subs.length := by omega
    refine L.va f24 (E.pickT f24 rfl rfl) fun a25 f25 => ?_
    refine L.mv f25 fun a26 f26 => ?_
    refine L.sk f26 (f26.noF rfl rfl) fun a27 f27 => ?_
    refine L.sk f27 (f27.noF rfl rfl) fun a28 f28 => ?_
    refine L.sk f28 (f28.noF rfl rfl) fun a29 f29 => ?_
    refine L.sk f29 (f29.noF rfl rfl) fun a30 f30 => ?_
    refine L.sk f30 (f30.noU rfl rfl) fun a31 f31 => ?_
    clear f23 f24 a23 f25 a25 f26 a26 f27 a27 f28 a28 f29 a29 f30 a30
    refine L.sk f31 (f31.noU rfl rfl) fun a32 f32 => ?_
    refine L.sk f32 (f32.noU rfl rfl) fun a33 f33 => ?_
    refine L.sk f33 (f33.noU rfl rfl) fun a34 f34 => ?_
    refine L.sk f34 (f34.noF rfl rfl) fun a35 f35 => ?_
    refine L.va f35 (E.pickT f35 rfl rfl) fun a36 f36 => ?_
    refine wpList_nil (hK45 _ _ ?_)
    have f37 := f36.sub (sc 1 (sc 196 sn))
    refine C.condT f37 rfl ?_
    refine C.sk fun K48 hK48 => ?_
    refine L.ag f37 fun a38 f38 => ?_
    have f39 := f38.sub (sc 2 sn)
    clear f31 a31 f32 a32 f33 a33 f34 a34 f35 a35 f36 f37 a36 f38
    refine wpList_nil (hK48 _ _ (wp_ret ?_)); (try simp only [xt, xb]); refine C.ret f39 rfl rfl ?_
    exact ⟨HK, by rw [rightR_eq]; (simp [A3, *]; done)⟩
   have hls : 0 < p.subs.length := by omega
   refine L.va f24 (E.pickT f24 rfl rfl) fun a25 f25 => ?_
   refine L.mv f25 fun a26 f26 => ?_
   refine L.fa 0 f26 U34 rfl wsz3_wd (hw := (f26.yes rfl rfl)) fun a27 f27 => ?_
   refine L.ld f27 U3 Bg0 (hw := (f27.yes rfl rfl)) fun a28 f28 => ?_
   refine L.va f28 (E.eq f28) (hw := (f28.yes rfl rfl)) fun a29 f29 => ?_
   refine L.mv f29 (hw := (f29.yes rfl rfl)) fun a30 f30 => ?_
   clear f23 f24 a23 f25 a25 f26 a26 f27 a27 f28 a28 f29 a29
   refine f30.splitD 190 rfl (fun h44 f31 => ?_) (fun h44 f31 => ?_)
   ·as_aux_lemma =>
    refine L.fa 23 f31 U34 rfl wsz32_wd (hw := (f31.yes rfl rfl)) fun a32 f32 => ?_
    refine L.ld f32 U32 Bg0 (hw := (f32.yes rfl rfl)) fun a33 f33 => ?_
    refine L.va f33 (E.lenL f33 U32 rfl) (hw := (f33.yes rfl rfl)) fun a34 f34 => ?_
    refine L.va f34 (E.eq f34) (hw := (f34.yes rfl rfl)) fun a35 f35 => ?_
    clear f30 f31 a30 f32 a32 f33 a33 f34 a34
    refine f35.splitD 194 rfl (fun h45 f36 => ?_) (fun h45 f36 => ?_)
    ·as_aux_lemma =>
     have hlc : ¬ 0 < p.codes.length := by omega
     refine L.va f36 (E.pickT f36 rfl rfl) (hw := (f36.yes rfl rfl)) fun a37 f37 => ?_
     refine L.va f37 (E.pickF f37 rfl rfl) fun a38 f38 => ?_
     refine wpList_nil (hK45 _ _ ?_)
     have f39 := f38.sub (sc 1 (sc 196 sn))
     refine C.condT f39 rfl ?_
     refine C.sk fun K49 hK49 => ?_
     refine L.ag f39 fun a40 f40 => ?_
     have f41 := f40.sub (sc 2 sn)
     refine wpList_nil (hK49 _ _ (wp_ret ?_)); (try simp only [xt, xb]); refine C.ret f41 rfl rfl ?_
     exact ⟨HK, by rw [rightR_eq]; (simp [*]; omega)⟩
    have hlc : 0 < p.codes.length := by omega
    refine L.va f36 (E.pickT f36 rfl rfl) (hw := (f36.yes rfl rfl)) fun a37 f37 => ?_
    refine L.va f37 (E.pickF f37 rfl rfl) fun a38 f38 => ?_
    refine wpList_nil (hK45 _ _ ?_)
    have f39 := f38.sub (sc 1 (sc 196 sn))
    refine C.condF f39 rfl ?_
    exact wp_skip (jn J17 (by rw [hJ17]; exact ⟨HK, Bg0, by assumption, by assumption, by assumption, by assumption, by assumption, by (simp [A3, *]; done), f39.sub (sx sn)⟩))
   refine L.sk f31 (f31.noT rfl rfl) fun a32 f32 => ?_
   refine L.sk f32 (f32.noT rfl rfl) fun a33 f33 => ?_
   refine L.sk f33 (f33.noT rfl rfl) fun a34 f34 => ?_
   refine L.sk f34 (f34.noT rfl rfl) fun a35 f35 => ?_
   refine L.va f35 (E.pickF f35 rfl rfl) (hw := (f35.yes rfl rfl)) fun a36 f36 => ?_
   refine L.va f36 (E.pickF f36 rfl rfl) fun a37 f37 => ?_
   refine wpList_nil (hK45 _ _ ?_)
   have f38 := f37.sub (sc 1 (sc 196 sn))
   clear f30 f31 a30 f32 a32 f33 a33 f34 a34 f35 a35 f36 a36 f37
   refine C.condF f38 rfl ?_
   exact wp_skip (jn J17 (by rw [hJ17]; exact ⟨HK, Bg0, by assumption, by assumption, by assumption, by assumption, by assumption, by (simp [A3, *]; done), f38.sub (sx sn)⟩))
  refine L.sk f19 (f19.noT rfl rfl) fun a20 f20 => ?_
  refine L.sk f20 (f20.noT rfl rfl) fun a21 f21 => ?_
  refine L.sk f21 (f21.noT rfl rfl) fun a22 f22 => ?_
  refine L.sk f22 (f22.noT rfl rfl) fun a23 f23 => ?_
  refine L.va f23 (E.pickF f23 rfl rfl) fun a24 f24 => ?_
  refine L.mv f24 fun a25 f25 => ?_
  refine L.fa 0 f25 U34 rfl wsz3_wd (hw := (f25.yes rfl rfl)) fun a26 f26 => ?_
  clear f18 f19 a18 f20 a20 f21 a21 f22 a22 f23 a23 f24 a24 f25 a25
  refine L.ld f26 U3 Bg0 (hw := (f26.yes rfl rfl)) fun a27 f27 => ?_
  refine L.va f27 (E.eq f27) (hw := (f27.yes rfl rfl)) fun a28 f28 => ?_
  refine L.mv f28 (hw := (f28.yes rfl rfl)) fun a29 f29 => ?_
  clear f26 a26 f27 a27 f28 a28
  refine f29.splitD 190 rfl (fun h46 f30 => ?_) (fun h46 f30 => ?_)
  ·as_aux_lemma =>
   refine L.fa 23 f30 U34 rfl wsz32_wd (hw := (f30.yes rfl rfl)) fun a31 f31 => ?_
   refine L.ld f31 U32 Bg0 (hw := (f31.yes rfl rfl)) fun a32 f32 => ?_
   refine L.va f32 (E.lenL f32 U32 rfl) (hw := (f32.yes rfl rfl)) fun a33 f33 => ?_
   refine L.va f33 (E.eq f33) (hw := (f33.yes rfl rfl)) fun a34 f34 => ?_
   clear f29 f30 a29 f31 a31 f32 a32 f33 a33
   refine f34.splitD 194 rfl (fun h47 f35 => ?_) (fun h47 f35 => ?_)
   ·as_aux_lemma =>
    have hlc : ¬ 0 < p.codes.length := by omega
    refine L.va f35 (E.pickT f35 rfl rfl) (hw := (f35.yes rfl rfl)) fun a36 f36 => ?_
    refine L.va f36 (E.pickF f36 rfl rfl) fun a37 f37 => ?_
    refine wpList_nil (hK45 _ _ ?_)
    have f38 := f37.sub (sc 1 (sc 196 sn))
    refine C.condT f38 rfl ?_
    refine C.sk fun K50 hK50 => ?_
    refine L.ag f38 fun a39 f39 => ?_
    have f40 := f39.sub (sc 2 sn)
    refine wpList_nil (hK50 _ _ (wp_ret ?_)); (try simp only [xt, xb]); refine C.ret f40 rfl rfl ?_
    exact ⟨HK, by rw [rightR_eq]; (simp [A3, *]; done)⟩
   have hlc : 0 < p.codes.length := by omega
   refine L.va f35 (E.pickT f35 rfl rfl) (hw := (f35.yes rfl rfl)) fun a36 f36 => ?_
   refine L.va f36 (E.pickF f36 rfl rfl) fun a37 f37 => ?_
   refine wpList_nil (hK45 _ _ ?_)
   have f38 := f37.sub (sc 1 (sc 196 sn))
   refine C.condF f38 rfl ?_
   exact wp_skip (jn J17 (by rw [hJ17]; exact ⟨HK, Bg0, by assumption, by assumption, by assumption, by assumption, by assumption, by (simp [A3, *]; done), f38.sub (sx sn)⟩))
  refine L.sk f30 (f30.noT rfl rfl) fun a31 f31 => ?_
  refine L.sk f31 (f31.noT rfl rfl) fun a32 f32 => ?_
  refine L.sk f32 (f32.noT rfl rfl) fun a33 f33 => ?_
  refine L.sk f33 (f33.noT rfl rfl) fun a34 f34 => ?_
  refine L.va f34 (E.pickF f34 rfl rfl) (hw := (f34.yes rfl rfl)) fun a35 f35 => ?_
  refine L.va f35 (E.pickF f35 rfl rfl) fun a36 f36 => ?_
  refine wpList_nil (hK45 _ _ ?_)
  have f37 := f36.sub (sc 1 (sc 196 sn))
  clear f29 f30 a29 f31 a31 f32 a32 f33 a33 f34 a34 f35 a35 f36
  refine C.condF f37 rfl ?_
  exact wp_skip (jn J17 (by rw [hJ17]; exact ⟨HK, Bg0, by assumption, by assumption, by assumption, by assumption, by assumption, by (simp [A3, *]; done), f37.sub (sx sn)⟩))
 as_aux_lemma =>
 intro a9 w6 hj
 rw [hJ17] at hj
 clear hJ17 J17
 obtain ⟨HK, Bg0, hA1, hwq, hA2, hsub, hcod, hA3, f9⟩ := hj
 try clear f8
 have hbd : bodyR p = behindL p := body_is p (A1_kd hA1) (A1_bare hA1)
 refine C.sk fun K51 hK51 => ?_
 refine L.va f9 (E.loadB f9 U34 rfl wsz34_wd rfl (Bg0) rfl) fun a10 f10 => ?_
 refine L.cl f10 (run_call Try.call26 (args1 f10 rfl)) (body_any p s _ (IP.kept HK) hL (fun _ => inB_iff.1 hwq)) ?_
 clear f9 a9
 rintro e w7 ⟨kc7, A7, c7, rfl, Q7⟩
 have F7 := FB.lower Q7 HK.size
 clear Q7
 refine ⟨_, rfl, fun a11 f11 => ?_⟩
 have szw7 := kc7.size
 replace HK := HK.z kc7
 replace Bg0 := Bg0.z kc7
 clear f10 a10 kc7
 refine L.va f11 (E.lenL f11 U28 rfl) fun a12 f12 => ?_
 refine L.va f12 (E.leq f12 rfl rfl) fun a13 f13 => ?_
 refine L.ag f13 fun a14 f14 => ?_
 have f15 := f14.sub (sc 2 sn)
 refine wpList_nil (hK51 _ _ (wp_ret ?_)); (try simp only [xt, xb]); refine C.ret f15 rfl rfl ?_
 exact ⟨HK, by rw [rightR_eq]; (simp [*]; omega)⟩
end Go.Proofs.Ytkdeedhjkjffpaa
namespace Go.Proofs.Ytkdeedhjkjffpaa
open Go.RowKit Go.Hub Go.Lib Go.Vl
theorem wzi9_xf : (Try.prog.info? 9).map (fun i => (i.zero, i.size)) = some (some (.string ⟨#[]⟩), 1) := by kernel_rfl
theorem wbs78_10_xf (x0 : ByteArray) (x1 : ByteArray) (x2 : ByteArray) (x3 : ByteArray) (x4 : ByteArray) (x5 : ByteArray) (x6 : ByteArray) (x7 : ByteArray) (x8 : ByteArray) (x9 : ByteArray) : Instr.fill (fun i => some (i * 1, 1)) ((Array.range (10 * 1)).map fun j => (Value.cells (.string ⟨#[]⟩))[j % (Value.cells (.string ⟨#[]⟩)).size]!) [(0, .string x0), (1, .string x1), (2, .string x2), (3, .string x3), (4, .string x4), (5, .string x5), (6, .string x6), (7, .string x7), (8, .string x8), (9, .string x9)] = some #[.string x0, .string x1, .string x2, .string x3, .string x4, .string x5, .string x6, .string x7, .string x8, .string x9] := by kernel_rfl
theorem wsz9_xf : (Try.prog.info? 9).map (·.size) = some 1 := by kernel_rfl
theorem wbs78_7_xf (x0 : ByteArray) (x1 : ByteArray) (x2 : ByteArray) (x3 : ByteArray) (x4 : ByteArray) (x5 : ByteArray) (x6 : ByteArray) : Instr.fill (fun i => some (i * 1, 1)) ((Array.range (7 * 1)).map fun j => (Value.cells (.string ⟨#[]⟩))[j % (Value.cells (.string ⟨#[]⟩)).size]!) [(0, .string x0), (1, .string x1), (2, .string x2), (3, .string x3), (4, .string x4), (5, .string x5), (6, .string x6)] = some #[.string x0, .string x1, .string x2, .string x3, .string x4, .string x5, .string x6] := by kernel_rfl
theorem wbs78_5_xf (x0 : ByteArray) (x1 : ByteArray) (x2 : ByteArray) (x3 : ByteArray) (x4 : ByteArray) : Instr.fill (fun i => some (i * 1, 1)) ((Array.range (5 * 1)).map fun j => (Value.cells (.string ⟨#[]⟩))[j % (Value.cells (.string ⟨#[]⟩)).size]!) [(0, .string x0), (1, .string x1), (2, .string x2), (3, .string x3), (4, .string x4)] = some #[.string x0, .string x1, .string x2, .string x3, .string x4] := by kernel_rfl
theorem wsz3_xf : (Try.prog.info? 3).map (·.size) = some 1 := by kernel_rfl
theorem wsz4_xf : (Try.prog.info? 4).map (·.size) = some 1 := by kernel_rfl
theorem wsz28_xf : (Try.prog.info? 28).map (·.size) = some 1 := by kernel_rfl
theorem wsz30_xf : (Try.prog.info? 30).map (·.size) = some 4 := by kernel_rfl
theorem wsz34_xf : (Try.prog.info? 34).map (·.size) = some 24 := by kernel_rfl
theorem wbl30_0_1_2_3_xf (x0 : ByteArray) (x1 : Option Addr) (y1 z1 : Nat) (x2 : Int) (x3 : Bool) : Try.prog.built 30 [(0, .string x0), (1, .slice x1 y1 z1), (2, .int .i64 x2), (3, .bool x3)] = some #[.string x0, .slice x1 y1 z1, .int .i64 x2, .bool x3] := by kernel_rfl
theorem wbl34_0_7_8_9_10_xf (x0 : Int) (x1 : Int) (x2 : ByteArray) (x3 : Bool) (x4 : Int) : Try.prog.built 34 [(0, .int .i64 x0), (7, .int .i64 x1), (8, .string x2), (9, .bool x3), (10, .int .i64 x4)] = some #[.int .i64 x0, (.bool false), (.bool false), (.int .i64 0), (.int .i64 0), (.string ⟨#[]⟩), (.slice none 0 0), .int .i64 x1, .string x2, .bool x3, .int .i64 x4, (.bool false), (.string ⟨#[]⟩), (.slice none 0 0), (.int .i64 0), (.bool false), (.bool false), (.bool false), (.string ⟨#[]⟩), (.slice none 0 0), (.bool false), (.int .i64 0), (.slice none 0 0), (.slice none 0 0)] := by kernel_rfl
def p7 : List ByteArray := [⟨#[97]⟩, ⟨#[97, 47, 98]⟩, ⟨#[98, 47, 99]⟩, ⟨#[36, 115, 47, 97]⟩, ⟨#[97, 47, 47, 98]⟩, ⟨#[195, 169, 47, 97]⟩, ⟨#[99]⟩]
def p10 : List ByteArray := [⟨#[97]⟩, ⟨#[35]⟩, ⟨#[97, 47, 43]⟩, ⟨#[43, 47, 98]⟩, ⟨#[97, 47, 35]⟩, ⟨#[98, 47, 99]⟩, ⟨#[36, 115, 47, 35]⟩, ⟨#[43]⟩, ⟨#[43, 47, 43]⟩, ⟨#[195, 169, 47, 35]⟩]
def p5 : List ByteArray := [⟨#[107]⟩, ⟨#[108]⟩, ⟨#[109]⟩, ⟨#[195, 169]⟩, ⟨#[]⟩]
def topicS (k : Int) : ByteArray := p7.getD (k % 7).toNat em
def filterS (k : Int) : ByteArray := p10.getD (k % 10).toNat em
def cliS (k : Int) : ByteArray := p5.getD (k % 5).toNat em
theorem list_at (l : List ByteArray) (i : Nat) (h : i < l.length) : l[i]? = some (l.getD i em) := by rw [List.getD_eq_getElem?_getD, List.getElem?_eq_getElem h]; rfl
theorem ss_blk {w : World} {g t : Nat} {l : List ByteArray} (B : Blk w g t (l.map Value.string).toArray) : Sl w (some ⟨g, 0, none⟩) l.length 1 (l.map Value.string) := by
  have h := B.slN (n := l.length) (size := 1) (by simp)
  simpa using h
theorem ss_cellI {w : World} {A : Option Addr} {b off : Nat} {l : List ByteArray} {x : ByteArray} {i : Int} (h : Sl w A l.length 1 (l.map Value.string)) (hA : A = some ⟨b, off, none⟩) (hx : l[i.toNat]? = some x) : w.cell? ⟨b, off + i.toNat * 1, none⟩ = some (.string x) := by
  have hk := (List.getElem?_eq_some_iff.1 hx).1
  rw [Nat.mul_one]
  exact Sl.cell h (by omega) hA (by simp [hx])
def con1 (a b c : Int) : Pk := if cliS a = em then { kind := 1, level := 4, client := cliS a, clean := decide (0 < b % 9), keep := c % 5 } else { kind := 1, level := 4, client := cliS a, clean := decide (b % 2 = 0), keep := c % 5 }
def con2 (a b c : Int) (x : List UInt8) (p : Pk) : Pk := if c % 3 = 0 then { p with hasWill := true, wt := topicS c, wp := x, wq := a % 3, wr := decide (b % 3 = 0) } else p
def con3 (a : Int) (p : Pk) : Pk := if a % 8 = 7 then { p with level := 3 } else p
def con4 (b : Int) (x : List UInt8) (p : Pk) : Pk := if b % 10 = 9 then { p with hasUser := true, user := ⟨#[117]⟩, hasPass := true, pass := x } else p
def seatCon (a b c : Int) (x : List UInt8) : Pk := con4 b x (con3 a (con2 a b c x (con1 a b c)))
theorem con1_nil (a b c : Int) : (con1 a b c).pay = [] ∧ (con1 a b c).wp = [] ∧ (con1 a b c).pass = [] ∧ (con1 a b c).subs = [] ∧ (con1 a b c).codes = [] := by
  unfold con1
  split <;> exact ⟨rfl, rfl, rfl, rfl, rfl⟩
def adC (b c : Int) (A : Option Addr) (cx : Nat) : Ad := if b % 10 = 9 then { (if c % 3 = 0 then { s0 with wa := A, wc := cx } else s0 : Ad) with sa := A, sc := cx } else (if c % 3 = 0 then { s0 with wa := A, wc := cx } else s0)
theorem seatcon_ok {W : World} {B : Nat} {a b c : Int} {x : List UInt8} {A : Option Addr} {cx : Nat} (S : Bs [5, 46, 3] B W A x.length x) : PkS B W (seatCon a b c x) (adC b c A cx) := by
  unfold adC
  obtain ⟨h1, h2, h3, h4, h5⟩ := con1_nil a b c
  unfold seatCon con4 con3 con2
  by_cases hb : b % 10 = 9 <;> by_cases hc : c % 3 = 0 <;> by_cases ha : a % 8 = 7 <;> simp only [hb, hc, ha, if_true, if_false, reduceIte] <;> constructor <;> (first | exact S | (simp only [h1, h2, h3, h4, h5]; exact Bs.nil _ _ _ _) | (simp only [h1, h2, h3, h4, h5]; exact Cs.nil _ _ _ _ _))
set_option maxHeartbeats 1000000 in
theorem filterS_any (k : Int) (w : World) (hk : 0 ≤ k ∧ k < 256) : Calls Try.prog 43 #[.int .u8 k] w (fun e w' => Kept [] w w' ∧ e = .returned (.string (filterS k))) := by
 have HK : Kept [] w w := Kept.refl [] w
 refine C.enter Try.func43 rfl Try.ntmps43 rfl ?_
 intro a0 f0
 have f1 : Fr 8 a0 [(0, .int .u8 k)] := f0
 refine C.sk fun K0 hK0 => ?_
 refine L.ag f1 fun a2 f2 => ?_
 refine wpList_nil (hK0 _ _ ?_)
 have f3 := f2.sub (sc 0 sn)
 refine wp_seq_k fun K1 hK1 => ?_
 have hx : p10[(k % 10).toNat]? = some (filterS k) := list_at p10 _ (by show _ < 10; omega)
 refine C.region ?_
 refine L.buildSlice f3 wantedN (by decide) (parts10 f3 rfl rfl rfl rfl rfl rfl rfl rfl rfl rfl) Try.underlying78 wzi9_xf rfl rfl (wbs78_10_xf _ _ _ _ _ _ _ _ _ _) fun a4 w1 g0 N0 f4 => ?_
 have SL := ss_blk (l := p10) N0.blk
 have Bg0 := N0.blk
 have kg0 := N0.kept
 have log0 := N0.lo
 have ltg0 := Bg0.lt
 have szw1 := kg0.size
 have frg0 : w.heap.size ≤ g0 := Nat.le_trans HK.size log0
 replace HK := HK.z kg0
 clear f0 f1 a0 f2 N0 kg0
 refine L.mv f4 fun a5 f5 => ?_
 refine L.va f5 (E.rem f5 rfl rfl (by omega) (Int.tmod_eq_emod_of_nonneg (by omega))) fun a6 f6 => ?_
 refine L.va f6 (E.indexA f6 (by rfl) Try.underlying78 wsz9_xf rfl rfl (by omega) (by omega)) fun a7 f7 => ?_
 refine L.va f7 (E.load f7 U9 rfl rfl (ss_cellI SL rfl hx)) fun a8 f8 => ?_
 refine L.ag f8 fun a9 f9 => ?_
 have f10 := f9.sub (sc 2 sn)
 refine wpList_nil (hK1 _ _ (wp_ret ?_)); (try simp only [xt, xb]); refine C.ret f10 rfl rfl ?_
 exact ⟨HK, rfl⟩
set_option maxHeartbeats 1000000 in
theorem topicS_any (k : Int) (w : World) (hk : 0 ≤ k ∧ k < 256) : Calls Try.prog 19 #[.int .u8 k] w (fun e w' => Kept [] w w' ∧ e = .returned (.string (topicS k))) := by
 have HK : Kept [] w w := Kept.refl [] w
 refine C.enter Try.func19 rfl Try.ntmps19 rfl ?_
 intro a0 f0
 have f1 : Fr 8 a0 [(0, .int .u8 k)] := f0
 refine C.sk fun K0 hK0 => ?_
 refine L.ag f1 fun a2 f2 => ?_
 refine wpList_nil (hK0 _ _ ?_)
 have f3 := f2.sub (sc 0 sn)
 refine wp_seq_k fun K1 hK1 => ?_
 have hx : p7[(k % 7).toNat]? = some (topicS k) := list_at p7 _ (by show _ < 7; omega)
 refine C.region ?_
 refine L.buildSlice f3 wantedN (by decide) (parts7 f3 rfl rfl rfl rfl rfl rfl rfl) Try.underlying78 wzi9_xf rfl rfl (wbs78_7_xf _ _ _ _ _ _ _) fun a4 w1 g0 N0 f4 => ?_
 have SL := ss_blk (l := p7) N0.blk
 have Bg0 := N0.blk
 have kg0 := N0.kept
 have log0 := N0.lo
 have ltg0 := Bg0.lt
 have szw1 := kg0.size
 have frg0 : w.heap.size ≤ g0 := Nat.le_trans HK.size log0
 replace HK := HK.z kg0
 clear f0 f1 a0 f2 N0 kg0
 refine L.mv f4 fun a5 f5 => ?_
 refine L.va f5 (E.rem f5 rfl rfl (by omega) (Int.tmod_eq_emod_of_nonneg (by omega))) fun a6 f6 => ?_
 refine L.va f6 (E.indexA f6 (by rfl) Try.underlying78 wsz9_xf rfl rfl (by omega) (by omega)) fun a7 f7 => ?_
 refine L.va f7 (E.load f7 U9 rfl rfl (ss_cellI SL rfl hx)) fun a8 f8 => ?_
 refine L.ag f8 fun a9 f9 => ?_
 have f10 := f9.sub (sc 2 sn)
 refine wpList_nil (hK1 _ _ (wp_ret ?_)); (try simp only [xt, xb]); refine C.ret f10 rfl rfl ?_
 exact ⟨HK, rfl⟩
set_option maxHeartbeats 4000000 in
theorem seatcon_any (a0_ b c : Int) (x : List UInt8) (A : Option Addr) (cx : Nat) (w : World) (SX : Sl w A x.length 1 (x.map u8)) (ha : 0 ≤ a0_ ∧ a0_ < 256) (hb : 0 ≤ b ∧ b < 256) (hc : 0 ≤ c ∧ c < 256) : Calls Try.prog 44 #[.int .u8 a0_, .int .u8 b, .int .u8 c, .slice A x.length cx] w (fun e w' => Kept [] w w' ∧ e = .returned (.agg ((seatCon a0_ b c x).cells (adC b c A cx)))) := by
 have HK : Kept [] w w := Kept.refl [] w
 refine C.enter Try.func44 rfl Try.ntmps44 rfl ?_
 intro a0 f0
 have f1 : Fr 57 a0 [(0, .int .u8 a0_), (1, .int .u8 b), (2, .int .u8 c), (3, .slice A x.length cx)] := f0
 refine C.sk fun K0 hK0 => ?_
 refine L.alloc f1 wantedN (by decide) (z := z34) (fun _ => by kernel_rfl) rfl fun a2 w1 g0 N0 f2 => ?_
 have Bg0 := N0.blk
 have kg0 := N0.kept
 have log0 := N0.lo
 have ltg0 := Bg0.lt
 have szw1 := kg0.size
 have frg0 : w.heap.size ≤ g0 := Nat.le_trans HK.size log0
 replace HK := HK.z kg0
 clear f0 N0 kg0
 refine wpList_nil (hK0 _ _ ?_)
 have f3 := f2.sub (sc 0 (sc 1 (sc 2 (sc 3 (sc 8 sn)))))
 refine wp_seq_k fun K1 hK1 => ?_
 have hx : p5[(a0_ % 5).toNat]? = some (cliS a0_) := list_at p5 _ (by show _ < 5; omega)
 refine C.region ?_
 refine L.buildSlice f3 wantedN (by decide) (parts5 f3 rfl rfl rfl rfl rfl) Try.underlying78 wzi9_xf rfl rfl (wbs78_5_xf _ _ _ _ _) fun a4 w2 g1 N1 f4 => ?_
 have SL := ss_blk (l := p5) N1.blk
 have Bg1 := N1.blk
 have kg1 := N1.kept
 have log1 := N1.lo
 have ltg1 := Bg1.lt
 have szw2 := kg1.size
 have frg1 : w.heap.size ≤ g1 := Nat.le_trans HK.size log1
 have neg0_g1 : g0 ≠ g1 := by have := Bg0.lt; omega
 replace HK := HK.z kg1
 replace Bg0 := Bg0.z kg1
 clear f1 a0 f2 N1 kg1
 refine L.mv f4 fun a5 f5 => ?_
 refine L.va f5 (E.rem f5 rfl rfl (by omega) (Int.tmod_eq_emod_of_nonneg (by omega))) fun a6 f6 => ?_
 refine L.va f6 (E.indexA f6 (by rfl) Try.underlying78 wsz9_xf rfl rfl (by omega) (by omega)) fun a7 f7 => ?_
 refine L.va f7 (E.load f7 U9 rfl rfl (ss_cellI SL rfl hx)) fun a8 f8 => ?_
 refine L.mv f8 fun a9 f9 => ?_
 refine L.va f9 (E.rem f9 rfl rfl (by omega) (Int.tmod_eq_emod_of_nonneg (by omega))) fun a10 f10 => ?_
 clear f3 a2 f4 a4 f5 a5 f6 a6 f7 a7 f8 a8 f9 a9
 refine L.va f10 (E.eq f10) fun a11 f11 => ?_
 refine L.mv f11 fun a12 f12 => ?_
 refine L.va f12 (E.rem f12 rfl rfl (by omega) (Int.tmod_eq_emod_of_nonneg (by omega))) fun a13 f13 => ?_
 refine L.va f13 (E.conv f13 U5 U3 rfl (IntWalk.i64_in _ (by omega))) fun a14 f14 => ?_
 refine L.va f14 (E.build f14 (parts5 f14 rfl rfl rfl rfl rfl) (wbl34_0_7_8_9_10_xf _ _ _ _ _)) fun a15 f15 => ?_
 refine L.alloc f15 wantedN (by decide) (z := z34) (fun _ => by kernel_rfl) rfl fun a16 w3 g2 N2 f16 => ?_
 have Bg2 := N2.blk
 have kg2 := N2.kept
 have log2 := N2.lo
 have ltg2 := Bg2.lt
 have szw3 := kg2.size
 have frg2 : w.heap.size ≤ g2 := Nat.le_trans HK.size log2
 have neg0_g2 : g0 ≠ g2 := by have := Bg0.lt; omega
 have neg1_g2 : g1 ≠ g2 := by have := Bg1.lt; omega
 replace HK := HK.z kg2
 replace Bg0 := Bg0.z kg2
 replace Bg1 := Bg1.z kg2
 clear f10 a10 f11 a11 f12 a12 f13 a13 f14 a14 N2 kg2
 refine L.storeR f16 wantedN wsz34_xf rfl rfl rfl Bg2 rfl rfl fun a17 w4 f17 NB4 ks4 => ?_
 have szw4 := ks4.size
 replace HK := HK.trans ks4 (ktr (by omega))
 replace Bg0 := Bg0.kept ks4 (by simp; omega)
 replace Bg1 := Bg1.kept ks4 (by simp; omega)
 replace Bg2 := NB4
 clear f15 a15 ks4 f16 a16
 refine wpList_nil (hK1 _ _ ?_)
 have f18 := f17.sub (sc 0 (sc 1 (sc 2 (sc 3 (sc 8 (sc 9 sn))))))
 obtain ⟨J4, hJ4⟩ : ∃ J : Act → World → Prop, J = fun a W => ∃ (gq : Nat) (p : Pk), p = con1 a0_ b c ∧ gq ≠ g0 ∧ w.heap.size ≤ gq ∧ Kept [] w W ∧ Blk W g0 34 zeroPk ∧ Blk W gq 34 (p.cells s0) ∧ Fr 57 a [(0, .int .u8 a0_), (1, .int .u8 b), (2, .int .u8 c), (3, .slice A x.length cx), (8, .pointer (some ⟨g0, 0, none⟩)), (9, .pointer (some ⟨gq, 0, none⟩))] := ⟨_, rfl⟩
 clear f17
 refine C.cut J4 ?_ ?_
 ·skip
  refine C.sk fun K2 hK2 => ?_
  refine L.fa 8 f18 U34 rfl wsz9_xf fun a19 f19 => ?_
  refine L.ld f19 U9 Bg2 fun a20 f20 => ?_
  refine L.va f20 (E.eqlS f20 rfl rfl) fun a21 f21 => ?_
  refine wpList_nil (hK2 _ _ ?_)
  have f22 := f21.sub (sc 0 (sc 1 (sc 2 (sc 3 (sc 8 (sc 9 (sc 24 sn)))))))
  clear f18 a17 f19 a19 f20 a20 f21
  refine f22.splitD 24 rfl (fun h0 f23 => ?_) (fun h0 f23 => ?_)
  ·refine C.condT f23 rfl ?_
   refine C.region ?_
   refine L.mv f23 fun a24 f24 => ?_
   refine L.va f24 (E.rem f24 rfl rfl (by omega) (Int.tmod_eq_emod_of_nonneg (by omega))) fun a25 f25 => ?_
   refine L.va f25 (E.gtr f25 rfl rfl) fun a26 f26 => ?_
   refine L.fa 9 f26 U34 rfl wsz4_xf fun a27 f27 => ?_
   refine L.store f27 wantedN wsz4_xf rfl rfl rfl Bg2 (by (simp [Value.cells]; done)) fun a28 w5 f28 NB5 ks5 => ?_
   have szw5 := ks5.size
   replace HK := HK.trans ks5 (ktr (by omega))
   replace Bg0 := Bg0.kept ks5 (by simp; omega)
   replace Bg1 := Bg1.kept ks5 (by simp; omega)
   replace Bg2 := NB5
   simp only [Value.cells, z1, z2, z3, Nat.reduceAdd, Nat.zero_add] at Bg2
   clear f22 f23 a21 f24 a24 f25 a25 f26 a26 ks5 f27 a27
   exact wpList_nil (jn J4 (by rw [hJ4]; exact ⟨g2, { kind := 1, level := 4, client := cliS a0_, clean := decide (0 < b % 9), keep := c % 5 }, by unfold con1; rw [if_pos (by assumption)], by omega, by omega, HK, Bg0, Bg2, f28.sub (sx (sx (sx (sx (sx (sx sn))))))⟩))
  refine C.condF f23 rfl ?_
  exact wp_skip (jn J4 (by rw [hJ4]; exact ⟨g2, { kind := 1, level := 4, client := cliS a0_, clean := decide (b % 2 = 0), keep := c % 5 }, by unfold con1; rw [if_neg (by assumption)], by omega, by omega, HK, Bg0, Bg2, f23.sub (sx (sx (sx (sx (sx (sx sn))))))⟩))
 intro a19 w5 hj
 rw [hJ4] at hj
 clear hJ4 J4
 obtain ⟨gq, p, hp, hne, hgq, HK, Bg0, BQ, f19⟩ := hj
 try clear f18
 replace BQ : Blk w5 gq 34 #[.int .i64 p.kind, .bool p.dup, .bool p.retain, .int .i64 p.qos, .int .i64 p.id, .string p.topic, .slice s0.pa p.pay.length s0.pc, .int .i64 p.level, .string p.client, .bool p.clean, .int .i64 p.keep, .bool p.hasWill, .string p.wt, .slice s0.wa p.wp.length s0.wc, .int .i64 p.wq, .bool p.wr, .bool p.hasUser, .bool p.hasPass, .string p.user, .slice s0.sa p.pass.length s0.sc, .bool p.present, .int .i64 p.code, .slice s0.ua p.subs.length s0.uc, .slice s0.ca p.codes.length s0.cc] := BQ
 have hne2 : g0 ≠ gq := fun e => hne e.symm
 obtain ⟨J6, hJ6⟩ : ∃ J : Act → World → Prop, J = fun a W => ∃ (p1 : Pk) (s1 : Ad), p1 = con2 a0_ b c x p ∧ s1 = (if c % 3 = 0 then { s0 with wa := A, wc := cx } else s0) ∧ Kept [] w W ∧ Blk W g0 34 zeroPk ∧ Blk W gq 34 (p1.cells s1) ∧ Fr 57 a [(0, .int .u8 a0_), (1, .int .u8 b), (3, .slice A x.length cx), (8, .pointer (some ⟨g0, 0, none⟩)), (9, .pointer (some ⟨gq, 0, none⟩))] := ⟨_, rfl⟩
 refine C.cut J6 ?_ ?_
 ·skip
  refine C.sk fun K3 hK3 => ?_
  refine L.mv f19 fun a20 f20 => ?_
  refine L.va f20 (E.rem f20 rfl rfl (by omega) (Int.tmod_eq_emod_of_nonneg (by omega))) fun a21 f21 => ?_
  refine L.va f21 (E.eq f21) fun a22 f22 => ?_
  refine wpList_nil (hK3 _ _ ?_)
  have f23 := f22.sub (sc 0 (sc 1 (sc 2 (sc 3 (sc 8 (sc 9 (sc 31 sn)))))))
  clear f19 a19 f20 a20 f21 a21 f22
  refine f23.splitD 31 rfl (fun h1 f24 => ?_) (fun h1 f24 => ?_)
  ·refine C.condT f24 rfl ?_
   refine C.region ?_
   refine L.mv f24 fun a25 f25 => ?_
   refine L.cl f25 (run_call Try.call19 (args1 f25 rfl)) (topicS_any c _ hc) ?_
   clear f23 f24 a22
   rintro e w6 ⟨kc6, rfl⟩
   refine ⟨_, rfl, fun a26 f26 => ?_⟩
   have szw6 := kc6.size
   replace HK := HK.z kc6
   replace Bg0 := Bg0.z kc6
   replace BQ := BQ.z kc6
   clear f25 a25 kc6
   refine L.mv f26 fun a27 f27 => ?_
   refine L.mv f27 fun a28 f28 => ?_
   refine L.va f28 (E.rem f28 rfl rfl (by omega) (Int.tmod_eq_emod_of_nonneg (by omega))) fun a29 f29 => ?_
   refine L.va f29 (E.conv f29 U5 U3 rfl (IntWalk.i64_in _ (by omega))) fun a30 f30 => ?_
   refine L.mv f30 fun a31 f31 => ?_
   refine L.va f31 (E.rem f31 rfl rfl (by omega) (Int.tmod_eq_emod_of_nonneg (by omega))) fun a32 f32 => ?_
   refine L.va f32 (E.eq f32) fun a33 f33 => ?_
   clear f26 a26 f27 a27 f28 a28 f29 a29 f30 a30 f31 a31 f32 a32
   refine L.va f33 (E.build f33 (parts4 f33 rfl rfl rfl rfl) (wbl30_0_1_2_3_xf _ _ _ _ _ _)) fun a34 f34 => ?_
   refine L.fa 11 f34 U34 rfl wsz4_xf fun a35 f35 => ?_
   refine L.store f35 wantedN wsz4_xf rfl rfl rfl BQ (by (simp [Value.cells]; done)) fun a36 w7 f36 NB7 ks7 => ?_
   have szw7 := ks7.size
   replace HK := HK.trans ks7 (ktr (by omega))
   replace Bg0 := Bg0.kept ks7 (by simp; omega)
   replace BQ := NB7
   simp only [Value.cells, z1, z2, z3, Nat.reduceAdd, Nat.zero_add] at BQ
   clear f33 a33 f34 a34 ks7 f35 a35
   refine L.fa 12 f36 U34 rfl wsz30_xf fun a37 f37 => ?_
   refine L.storeSeg f37 wantedN wsz30_xf rfl rfl rfl BQ (Nat.le_of_ble_eq_true rfl) rfl fun a38 w8 f38 NB8 ks8 => ?_
   have szw8 := ks8.size
   replace HK := HK.trans ks8 (ktr (by omega))
   replace Bg0 := Bg0.kept ks8 (by simp; omega)
   replace BQ := NB8
   simp only [setSeg, List.set_cons_zero, List.set_cons_succ, Nat.reduceAdd, Nat.zero_add] at BQ
   clear f36 a36 ks8 f37 a37
   exact wpList_nil (jn J6 (by rw [hJ6]; exact ⟨{ p with hasWill := true, wt := topicS c, wp := x, wq := a0_ % 3, wr := decide (b % 3 = 0) }, { s0 with wa := A, wc := cx }, by unfold con2; rw [if_pos (by assumption)], by rw [if_pos (by assumption)], HK, Bg0, BQ, f38.sub (sx (sx (sx (sx (sx sn)))))⟩))
  refine C.condF f24 rfl ?_
  exact wp_skip (jn J6 (by rw [hJ6]; exact ⟨p, s0, by unfold con2; rw [if_neg (by assumption)], by rw [if_neg (by assumption)], HK, Bg0, BQ, f24.sub (sx (sx (sx (sx (sx sn)))))⟩))
 intro a20 w6 hj
 rw [hJ6] at hj
 clear hJ6 J6
 obtain ⟨p1, s1, hp1, hs1, HK, Bg0, BQ, f20⟩ := hj
 try clear f19
 replace BQ : Blk w6 gq 34 #[.int .i64 p1.kind, .bool p1.dup, .bool p1.retain, .int .i64 p1.qos, .int .i64 p1.id, .string p1.topic, .slice s1.pa p1.pay.length s1.pc, .int .i64 p1.level, .string p1.client, .bool p1.clean, .int .i64 p1.keep, .bool p1.hasWill, .string p1.wt, .slice s1.wa p1.wp.length s1.wc, .int .i64 p1.wq, .bool p1.wr, .bool p1.hasUser, .bool p1.hasPass, .string p1.user, .slice s1.sa p1.pass.length s1.sc, .bool p1.present, .int .i64 p1.code, .slice s1.ua p1.subs.length s1.uc, .slice s1.ca p1.codes.length s1.cc] := BQ
 obtain ⟨J8, hJ8⟩ : ∃ J : Act → World → Prop, J = fun a W => ∃ (p2 : Pk), p2 = con3 a0_ p1 ∧ Kept [] w W ∧ Blk W g0 34 zeroPk ∧ Blk W gq 34 (p2.cells s1) ∧ Fr 57 a [(1, .int .u8 b), (3, .slice A x.length cx), (8, .pointer (some ⟨g0, 0, none⟩)), (9, .pointer (some ⟨gq, 0, none⟩))] := ⟨_, rfl⟩
 refine C.cut J8 ?_ ?_
 ·skip
  refine C.sk fun K4 hK4 => ?_
  refine L.mv f20 fun a21 f21 => ?_
  refine L.va f21 (E.rem f21 rfl rfl (by omega) (Int.tmod_eq_emod_of_nonneg (by omega))) fun a22 f22 => ?_
  refine L.va f22 (E.eq f22) fun a23 f23 => ?_
  refine wpList_nil (hK4 _ _ ?_)
  have f24 := f23.sub (sc 1 (sc 3 (sc 8 (sc 9 (sc 46 sn)))))
  clear f20 a20 f21 a21 f22 a22 f23
  refine f24.splitD 46 rfl (fun h2 f25 => ?_) (fun h2 f25 => ?_)
  ·refine C.condT f25 rfl ?_
   refine C.region ?_
   refine L.fa 7 f25 U34 rfl wsz3_xf fun a26 f26 => ?_
   refine L.store f26 wantedN wsz3_xf rfl rfl rfl BQ (by (simp [Value.cells]; done)) fun a27 w7 f27 NB7 ks7 => ?_
   have szw7 := ks7.size
   replace HK := HK.trans ks7 (ktr (by omega))
   replace Bg0 := Bg0.kept ks7 (by simp; omega)
   replace BQ := NB7
   simp only [Value.cells, z1, z2, z3, Nat.reduceAdd, Nat.zero_add] at BQ
   clear f24 f25 a23 ks7 f26 a26
   exact wpList_nil (jn J8 (by rw [hJ8]; exact ⟨{ p1 with level := 3 }, by unfold con3; rw [if_pos (by assumption)], HK, Bg0, BQ, f27.sub (sx (sx (sx (sx sn))))⟩))
  refine C.condF f25 rfl ?_
  exact wp_skip (jn J8 (by rw [hJ8]; exact ⟨p1, by unfold con3; rw [if_neg (by assumption)], HK, Bg0, BQ, f25.sub (sx (sx (sx (sx sn))))⟩))
 intro a21 w7 hj
 rw [hJ8] at hj
 clear hJ8 J8
 obtain ⟨p2, hp2, HK, Bg0, BQ, f21⟩ := hj
 try clear f20
 replace BQ : Blk w7 gq 34 #[.int .i64 p2.kind, .bool p2.dup, .bool p2.retain, .int .i64 p2.qos, .int .i64 p2.id, .string p2.topic, .slice s1.pa p2.pay.length s1.pc, .int .i64 p2.level, .string p2.client, .bool p2.clean, .int .i64 p2.keep, .bool p2.hasWill, .string p2.wt, .slice s1.wa p2.wp.length s1.wc, .int .i64 p2.wq, .bool p2.wr, .bool p2.hasUser, .bool p2.hasPass, .string p2.user, .slice s1.sa p2.pass.length s1.sc, .bool p2.present, .int .i64 p2.code, .slice s1.ua p2.subs.length s1.uc, .slice s1.ca p2.codes.length s1.cc] := BQ
 obtain ⟨J10, hJ10⟩ : ∃ J : Act → World → Prop, J = fun a W => ∃ (p3 : Pk) (s3 : Ad), p3 = con4 b x p2 ∧ s3 = (if b % 10 = 9 then { s1 with sa := A, sc := cx } else s1) ∧ Kept [] w W ∧ Blk W g0 34 zeroPk ∧ Blk W gq 34 (p3.cells s3) ∧ Fr 57 a [(8, .pointer (some ⟨g0, 0, none⟩)), (9, .pointer (some ⟨gq, 0, none⟩))] := ⟨_, rfl⟩
 refine C.cut J10 ?_ ?_
 ·skip
  refine C.sk fun K5 hK5 => ?_
  refine L.mv f21 fun a22 f22 => ?_
  refine L.va f22 (E.rem f22 rfl rfl (by omega) (Int.tmod_eq_emod_of_nonneg (by omega))) fun a23 f23 => ?_
  refine L.va f23 (E.eq f23) fun a24 f24 => ?_
  refine wpList_nil (hK5 _ _ ?_)
  have f25 := f24.sub (sc 3 (sc 8 (sc 9 (sc 50 sn))))
  clear f21 a21 f22 a22 f23 a23 f24
  refine f25.splitD 50 rfl (fun h3 f26 => ?_) (fun h3 f26 => ?_)
  ·refine C.condT f26 rfl ?_
   refine C.region ?_
   refine L.mv f26 fun a27 f27 => ?_
   refine L.fa 16 f27 U34 rfl wsz4_xf fun a28 f28 => ?_
   refine L.store f28 wantedN wsz4_xf rfl rfl rfl BQ (by (simp [Value.cells]; done)) fun a29 w8 f29 NB8 ks8 => ?_
   have szw8 := ks8.size
   replace HK := HK.trans ks8 (ktr (by omega))
   replace Bg0 := Bg0.kept ks8 (by simp; omega)
   replace BQ := NB8
   simp only [Value.cells, z1, z2, z3, Nat.reduceAdd, Nat.zero_add] at BQ
   clear f25 f26 a24 f27 a27 ks8 f28 a28
   refine L.fa 18 f29 U34 rfl wsz9_xf fun a30 f30 => ?_
   refine L.store f30 wantedN wsz9_xf rfl rfl rfl BQ (by (simp [Value.cells]; done)) fun a31 w9 f31 NB9 ks9 => ?_
   have szw9 := ks9.size
   replace HK := HK.trans ks9 (ktr (by omega))
   replace Bg0 := Bg0.kept ks9 (by simp; omega)
   replace BQ := NB9
   simp only [Value.cells, z1, z2, z3, Nat.reduceAdd, Nat.zero_add] at BQ
   clear f29 a29 ks9 f30 a30
   refine L.fa 17 f31 U34 rfl wsz4_xf fun a32 f32 => ?_
   refine L.store f32 wantedN wsz4_xf rfl rfl rfl BQ (by (simp [Value.cells]; done)) fun a33 w10 f33 NB10 ks10 => ?_
   have szw10 := ks10.size
   replace HK := HK.trans ks10 (ktr (by omega))
   replace Bg0 := Bg0.kept ks10 (by simp; omega)
   replace BQ := NB10
   simp only [Value.cells, z1, z2, z3, Nat.reduceAdd, Nat.zero_add] at BQ
   clear f31 a31 ks10 f32 a32
   refine L.fa 19 f33 U34 rfl wsz28_xf fun a34 f34 => ?_
   refine L.store f34 wantedN wsz28_xf rfl rfl rfl BQ (by (simp [Value.cells]; done)) fun a35 w11 f35 NB11 ks11 => ?_
   have szw11 := ks11.size
   replace HK := HK.trans ks11 (ktr (by omega))
   replace Bg0 := Bg0.kept ks11 (by simp; omega)
   replace BQ := NB11
   simp only [Value.cells, z1, z2, z3, Nat.reduceAdd, Nat.zero_add] at BQ
   clear f33 a33 ks11 f34 a34
   exact wpList_nil (jn J10 (by rw [hJ10]; exact ⟨{ p2 with hasUser := true, user := ⟨#[117]⟩, hasPass := true, pass := x }, { s1 with sa := A, sc := cx }, by unfold con4; rw [if_pos (by assumption)], by rw [if_pos (by assumption)], HK, Bg0, BQ, f35.sub (sx (sx sn))⟩))
  refine C.condF f26 rfl ?_
  exact wp_skip (jn J10 (by rw [hJ10]; exact ⟨p2, s1, by unfold con4; rw [if_neg (by assumption)], by rw [if_neg (by assumption)], HK, Bg0, BQ, f26.sub (sx (sx sn))⟩))
 intro a22 w8 hj
 rw [hJ10] at hj
 clear hJ10 J10
 obtain ⟨p3, s3, hp3, hs3, HK, Bg0, BQ, f22⟩ := hj
 try clear f21
 refine C.sk fun K6 hK6 => ?_
 refine L.va f22 (E.loadB f22 U34 rfl wsz34_xf rfl (BQ) rfl) fun a23 f23 => ?_
 refine L.storeR f23 wantedN wsz34_xf rfl rfl rfl Bg0 rfl rfl fun a24 w9 f24 NB9 ks9 => ?_
 have szw9 := ks9.size
 replace HK := HK.trans ks9 (ktr (by omega))
 replace BQ := BQ.kept ks9 (by simp; omega)
 replace Bg0 := NB9
 clear f22 a22 ks9 f23 a23
 have f25 := f24.sub (sc 8 sn)
 refine wpList_nil (hK6 _ _ (wp_ret ?_)); (try simp only [xt, xb]); refine C.retC f25 rfl rfl Bg0 U34 rfl wsz34_xf ?_
 have he : p3 = seatCon a0_ b c x := by rw [hp3, hp2, hp1, hp]; rfl
 have hs : s3 = adC b c A cx := by rw [hs3, hs1]; rfl
 exact ⟨HK, by rw [← he, ← hs]⟩
end Go.Proofs.Ytkdeedhjkjffpaa
