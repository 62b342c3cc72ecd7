/- The contract of the document's step, behind a first byte of two to four (printed by gen_b.py). -/
import Derived.Test.YtpdacegpjofdeaaDoorA
set_option linter.all false
namespace Go.Proofs.YtpdacegpjofdeaaDoor
open Go.RowKit Go.Hub Go.Lib

section
variable (b off cap : Nat) (l : List UInt8) (w : World) (hne : 0 < l.length) (hbig : l.length ≤ maxLen)
  (hc : ∀ j, j < l.length → w.cell? ⟨b, off + j, none⟩ = some (.int .u8 ((l.getD j 0).toNat : Int)))
set_option maxRecDepth 100000 in
set_option maxHeartbeats 8000000 in
include hne hc hbig in
theorem step_2 (ha : 192 ≤ (l.getD 0 0).toNat) (hb : (l.getD 0 0).toNat < 224) (hl : 2 ≤ l.length) : Calls Tryd.prog 40 #[.slice (some ⟨b, off, none⟩) l.length cap] w fun e w' => e = .returned (stepV l) ∧ w' = w := by
  have hcl : Cls (l.getD 0 0).toNat 2 32 128 := by unfold Cls; omega
  have h0 := hc 0 hne
  rw [Nat.add_zero] at h0
  have HC := hid hc
  have HB := hid (fun k (h1 : 1 ≤ k) (h2 : k ≤ 2) => ac_bd hcl k h1 h2)
  have HK := hid hcl
  have hlt := (l.getD 0 0).toNat_lt
  have hl2 : (0 : Int) < (l.length : Int) := by omega
  have H1 := hid (ac_one l 32)
  obtain ⟨x, hx⟩ : ∃ x, x = (l.getD 0 0).toNat := ⟨_, rfl⟩
  rw [← hx] at h0 hlt H1 ha hb
  have hm := u8_m5 ⟨x, hlt⟩
  unfold maxLen at hbig
  clear hc hx hcl
  have hi : ¬ (x : Int) < 128 := by omega
  have hi2 : (192 : Int) ≤ x := by omega
  have hi4 : (x : Int) < 224 := by omega
  have hi5 : ¬ (l.length : Int) < 2 := by omega
  go_enter Tryd.func40, Tryd.ntmps40
  go_wp2
  clear hm
  go_loopg [8, 9] 1 (fun g r i wr => ∃ k : Nat, 1 ≤ k ∧ k + g = 2 ∧ i = .int .i64 k ∧ r = .int .i32 (ac l 32 k) ∧ (∀ j, 1 ≤ j → j < k → (l.getD j 0).toNat / 64 = 2) ∧ w = wr)
  case atStart => exact ⟨1, by omega, rfl, rfl, by rw [H1.out]; rfl, fun j h1 h2 => by omega, rfl⟩
  case round =>
    obtain ⟨k, hk1, hk2, rfl, rfl, hcont, rfl⟩ := hrel
    have HCT := hid hcont
    have hbd := HB.out k hk1 (by omega)
    obtain ⟨r, hr⟩ : ∃ r, r = ac l 32 k := ⟨_, rfl⟩
    rw [← hr] at hbd ⊢
    have HR := hid hr
    clear hcont hr
    by_cases hlt2 : k < 2
    · have hcell := HC.out k (by omega)
      have hk3 : (k : Int) < 2 := by omega
      have hk4 : (k : Int) < (l.length : Int) := by omega
      have hzl := (l.getD k 0).toNat_lt
      have hr3 := hbd.2 hlt2
      obtain ⟨z, hz⟩ : ∃ z, z = (l.getD k 0).toNat := ⟨_, rfl⟩
      rw [← hz] at hcell hzl
      have HZ := hid hz
      have hmh := u8_hi ⟨z, hzl⟩
      have hml := u8_m6 ⟨z, hzl⟩
      simp only [] at hmh hml
      have hor : bits .or .i32 ((r : Int) * 64) ((z % 64 : Nat) : Int) = (r : Int) * 64 + ((z % 64 : Nat) : Int) := i32_or 6 _ _ (by omega) (by omega) (by omega) (by omega) (by omega) (by omega)
      have HI := hid hk2
      clear hz hk2 hbd
      by_cases hz2 : z / 64 = 2
      · have hq : ((z / 64 * 64 : Nat) : Int) = 128 := by omega
        rw [hq] at hmh
        have HQ := hid hz2
        clear hz2 hq
        go_wp2
        go_roundg (gk - 1)
        case measure => have := HI.out; omega
        case rel =>
          refine ⟨k + 1, by omega, by have := HI.out; omega, by go_num, ?_, fun j h1 h2 => ?_, rfl⟩
          · rw [ac_succ l 32 k hk1, ← HR.out, ← HZ.out]
            congr 1
          · rcases Nat.lt_or_ge j k with h | h
            · exact HCT.out j h1 h
            · obtain rfl : j = k := by omega
              rw [← HZ.out]; exact HQ.out
      · have hq : (((z / 64 * 64 : Nat) : Int) != 128) = true := by simp; omega
        have HS := hid (stepV_bad (dec_broken HK.out hk1 hlt2 (by rw [← HZ.out]; exact hz2)))
        clear hz2
        go_wp2
        go_ret3
        exact ⟨by rw [HS.out]; rfl, rfl⟩
    · obtain rfl : k = 2 := by omega
      have HD := hid (dec_whole HK.out hl HCT.out)
      rw [← HR.out] at HD
      clear hlt2 hk2
      have hr9 := hbd.1
      clear hbd
      by_cases hg : 128 ≤ r ∧ r ≤ 1114111 ∧ ¬ (55296 ≤ r ∧ r < 57344)
      · have HS := hid (stepV_ok (HD.out.trans (if_pos hg)) (by omega))
        obtain ⟨g1, g2, g3⟩ := hg
        have i1 : ¬ (r : Int) < 128 := by omega
        have i2 : ¬ (1114111 : Int) < r := by omega
        by_cases g4 : r < 55296
        · have i3 : ¬ (55296 : Int) ≤ r := by omega
          clear g1 g2 g3 g4
          go_wp2
          go_ret3
          exact ⟨by rw [HS.out]; rfl, rfl⟩
        · have i3 : (55296 : Int) ≤ r := by omega
          have i4 : ¬ (r : Int) < 57344 := by omega
          clear g1 g2 g3 g4
          go_wp2
          go_ret3
          exact ⟨by rw [HS.out]; rfl, rfl⟩
      · have HS := hid (stepV_bad (HD.out.trans (if_neg hg)))
        by_cases g1 : r < 128
        · have i1 : (r : Int) < 128 := by omega
          clear g1 hg
          go_wp2
          all_goals (go_ret3; exact ⟨by rw [HS.out]; rfl, rfl⟩)
        · have i1 : ¬ (r : Int) < 128 := by omega
          by_cases g2 : r ≤ 1114111
          · have i2 : ¬ (1114111 : Int) < r := by omega
            have i3 : (55296 : Int) ≤ r := by omega
            have i4 : (r : Int) < 57344 := by omega
            clear g1 hg g2
            go_wp2
            go_ret3
            exact ⟨by rw [HS.out]; rfl, rfl⟩
          · have i2 : (1114111 : Int) < r := by omega
            clear g1 hg g2
            go_wp2
            all_goals (go_ret3; exact ⟨by rw [HS.out]; rfl, rfl⟩)
set_option maxRecDepth 100000 in
set_option maxHeartbeats 8000000 in
include hne hc hbig in
theorem step_3 (ha : 224 ≤ (l.getD 0 0).toNat) (hb : (l.getD 0 0).toNat < 240) (hl : 3 ≤ l.length) : Calls Tryd.prog 40 #[.slice (some ⟨b, off, none⟩) l.length cap] w fun e w' => e = .returned (stepV l) ∧ w' = w := by
  have hcl : Cls (l.getD 0 0).toNat 3 16 2048 := by unfold Cls; omega
  have h0 := hc 0 hne
  rw [Nat.add_zero] at h0
  have HC := hid hc
  have HB := hid (fun k (h1 : 1 ≤ k) (h2 : k ≤ 3) => ac_bd hcl k h1 h2)
  have HK := hid hcl
  have hlt := (l.getD 0 0).toNat_lt
  have hl2 : (0 : Int) < (l.length : Int) := by omega
  have H1 := hid (ac_one l 16)
  obtain ⟨x, hx⟩ : ∃ x, x = (l.getD 0 0).toNat := ⟨_, rfl⟩
  rw [← hx] at h0 hlt H1 ha hb
  have hm := u8_m4 ⟨x, hlt⟩
  unfold maxLen at hbig
  clear hc hx hcl
  have hi : ¬ (x : Int) < 128 := by omega
  have hi2 : (224 : Int) ≤ x := by omega
  have hi4 : (x : Int) < 240 := by omega
  have hi5 : ¬ (l.length : Int) < 3 := by omega
  go_enter Tryd.func40, Tryd.ntmps40
  go_wp2
  clear hm
  go_loopg [8, 9] 2 (fun g r i wr => ∃ k : Nat, 1 ≤ k ∧ k + g = 3 ∧ i = .int .i64 k ∧ r = .int .i32 (ac l 16 k) ∧ (∀ j, 1 ≤ j → j < k → (l.getD j 0).toNat / 64 = 2) ∧ w = wr)
  case atStart => exact ⟨1, by omega, rfl, rfl, by rw [H1.out]; rfl, fun j h1 h2 => by omega, rfl⟩
  case round =>
    obtain ⟨k, hk1, hk2, rfl, rfl, hcont, rfl⟩ := hrel
    have HCT := hid hcont
    have hbd := HB.out k hk1 (by omega)
    obtain ⟨r, hr⟩ : ∃ r, r = ac l 16 k := ⟨_, rfl⟩
    rw [← hr] at hbd ⊢
    have HR := hid hr
    clear hcont hr
    by_cases hlt2 : k < 3
    · have hcell := HC.out k (by omega)
      have hk3 : (k : Int) < 3 := by omega
      have hk4 : (k : Int) < (l.length : Int) := by omega
      have hzl := (l.getD k 0).toNat_lt
      have hr3 := hbd.2 hlt2
      obtain ⟨z, hz⟩ : ∃ z, z = (l.getD k 0).toNat := ⟨_, rfl⟩
      rw [← hz] at hcell hzl
      have HZ := hid hz
      have hmh := u8_hi ⟨z, hzl⟩
      have hml := u8_m6 ⟨z, hzl⟩
      simp only [] at hmh hml
      have hor : bits .or .i32 ((r : Int) * 64) ((z % 64 : Nat) : Int) = (r : Int) * 64 + ((z % 64 : Nat) : Int) := i32_or 6 _ _ (by omega) (by omega) (by omega) (by omega) (by omega) (by omega)
      have HI := hid hk2
      clear hz hk2 hbd
      by_cases hz2 : z / 64 = 2
      · have hq : ((z / 64 * 64 : Nat) : Int) = 128 := by omega
        rw [hq] at hmh
        have HQ := hid hz2
        clear hz2 hq
        go_wp2
        go_roundg (gk - 1)
        case measure => have := HI.out; omega
        case rel =>
          refine ⟨k + 1, by omega, by have := HI.out; omega, by go_num, ?_, fun j h1 h2 => ?_, rfl⟩
          · rw [ac_succ l 16 k hk1, ← HR.out, ← HZ.out]
            congr 1
          · rcases Nat.lt_or_ge j k with h | h
            · exact HCT.out j h1 h
            · obtain rfl : j = k := by omega
              rw [← HZ.out]; exact HQ.out
      · have hq : (((z / 64 * 64 : Nat) : Int) != 128) = true := by simp; omega
        have HS := hid (stepV_bad (dec_broken HK.out hk1 hlt2 (by rw [← HZ.out]; exact hz2)))
        clear hz2
        go_wp2
        go_ret3
        exact ⟨by rw [HS.out]; rfl, rfl⟩
    · obtain rfl : k = 3 := by omega
      have HD := hid (dec_whole HK.out hl HCT.out)
      rw [← HR.out] at HD
      clear hlt2 hk2
      have hr9 := hbd.1
      clear hbd
      by_cases hg : 2048 ≤ r ∧ r ≤ 1114111 ∧ ¬ (55296 ≤ r ∧ r < 57344)
      · have HS := hid (stepV_ok (HD.out.trans (if_pos hg)) (by omega))
        obtain ⟨g1, g2, g3⟩ := hg
        have i1 : ¬ (r : Int) < 2048 := by omega
        have i2 : ¬ (1114111 : Int) < r := by omega
        by_cases g4 : r < 55296
        · have i3 : ¬ (55296 : Int) ≤ r := by omega
          clear g1 g2 g3 g4
          go_wp2
          go_ret3
          exact ⟨by rw [HS.out]; rfl, rfl⟩
        · have i3 : (55296 : Int) ≤ r := by omega
          have i4 : ¬ (r : Int) < 57344 := by omega
          clear g1 g2 g3 g4
          go_wp2
          go_ret3
          exact ⟨by rw [HS.out]; rfl, rfl⟩
      · have HS := hid (stepV_bad (HD.out.trans (if_neg hg)))
        by_cases g1 : r < 2048
        · have i1 : (r : Int) < 2048 := by omega
          clear g1 hg
          go_wp2
          all_goals (go_ret3; exact ⟨by rw [HS.out]; rfl, rfl⟩)
        · have i1 : ¬ (r : Int) < 2048 := by omega
          by_cases g2 : r ≤ 1114111
          · have i2 : ¬ (1114111 : Int) < r := by omega
            have i3 : (55296 : Int) ≤ r := by omega
            have i4 : (r : Int) < 57344 := by omega
            clear g1 hg g2
            go_wp2
            go_ret3
            exact ⟨by rw [HS.out]; rfl, rfl⟩
          · have i2 : (1114111 : Int) < r := by omega
            clear g1 hg g2
            go_wp2
            all_goals (go_ret3; exact ⟨by rw [HS.out]; rfl, rfl⟩)
set_option maxRecDepth 100000 in
set_option maxHeartbeats 8000000 in
include hne hc hbig in
theorem step_4 (ha : 240 ≤ (l.getD 0 0).toNat) (hb : (l.getD 0 0).toNat < 248) (hl : 4 ≤ l.length) : Calls Tryd.prog 40 #[.slice (some ⟨b, off, none⟩) l.length cap] w fun e w' => e = .returned (stepV l) ∧ w' = w := by
  have hcl : Cls (l.getD 0 0).toNat 4 8 65536 := by unfold Cls; omega
  have h0 := hc 0 hne
  rw [Nat.add_zero] at h0
  have HC := hid hc
  have HB := hid (fun k (h1 : 1 ≤ k) (h2 : k ≤ 4) => ac_bd hcl k h1 h2)
  have HK := hid hcl
  have hlt := (l.getD 0 0).toNat_lt
  have hl2 : (0 : Int) < (l.length : Int) := by omega
  have H1 := hid (ac_one l 8)
  obtain ⟨x, hx⟩ : ∃ x, x = (l.getD 0 0).toNat := ⟨_, rfl⟩
  rw [← hx] at h0 hlt H1 ha hb
  have hm := u8_m3 ⟨x, hlt⟩
  unfold maxLen at hbig
  clear hc hx hcl
  have hi : ¬ (x : Int) < 128 := by omega
  have hi2 : (240 : Int) ≤ x := by omega
  have hi4 : (x : Int) < 248 := by omega
  have hi5 : ¬ (l.length : Int) < 4 := by omega
  go_enter Tryd.func40, Tryd.ntmps40
  go_wp2
  clear hm
  go_loopg [8, 9] 3 (fun g r i wr => ∃ k : Nat, 1 ≤ k ∧ k + g = 4 ∧ i = .int .i64 k ∧ r = .int .i32 (ac l 8 k) ∧ (∀ j, 1 ≤ j → j < k → (l.getD j 0).toNat / 64 = 2) ∧ w = wr)
  case atStart => exact ⟨1, by omega, rfl, rfl, by rw [H1.out]; rfl, fun j h1 h2 => by omega, rfl⟩
  case round =>
    obtain ⟨k, hk1, hk2, rfl, rfl, hcont, rfl⟩ := hrel
    have HCT := hid hcont
    have hbd := HB.out k hk1 (by omega)
    obtain ⟨r, hr⟩ : ∃ r, r = ac l 8 k := ⟨_, rfl⟩
    rw [← hr] at hbd ⊢
    have HR := hid hr
    clear hcont hr
    by_cases hlt2 : k < 4
    · have hcell := HC.out k (by omega)
      have hk3 : (k : Int) < 4 := by omega
      have hk4 : (k : Int) < (l.length : Int) := by omega
      have hzl := (l.getD k 0).toNat_lt
      have hr3 := hbd.2 hlt2
      obtain ⟨z, hz⟩ : ∃ z, z = (l.getD k 0).toNat := ⟨_, rfl⟩
      rw [← hz] at hcell hzl
      have HZ := hid hz
      have hmh := u8_hi ⟨z, hzl⟩
      have hml := u8_m6 ⟨z, hzl⟩
      simp only [] at hmh hml
      have hor : bits .or .i32 ((r : Int) * 64) ((z % 64 : Nat) : Int) = (r : Int) * 64 + ((z % 64 : Nat) : Int) := i32_or 6 _ _ (by omega) (by omega) (by omega) (by omega) (by omega) (by omega)
      have HI := hid hk2
      clear hz hk2 hbd
      by_cases hz2 : z / 64 = 2
      · have hq : ((z / 64 * 64 : Nat) : Int) = 128 := by omega
        rw [hq] at hmh
        have HQ := hid hz2
        clear hz2 hq
        go_wp2
        go_roundg (gk - 1)
        case measure => have := HI.out; omega
        case rel =>
          refine ⟨k + 1, by omega, by have := HI.out; omega, by go_num, ?_, fun j h1 h2 => ?_, rfl⟩
          · rw [ac_succ l 8 k hk1, ← HR.out, ← HZ.out]
            congr 1
          · rcases Nat.lt_or_ge j k with h | h
            · exact HCT.out j h1 h
            · obtain rfl : j = k := by omega
              rw [← HZ.out]; exact HQ.out
      · have hq : (((z / 64 * 64 : Nat) : Int) != 128) = true := by simp; omega
        have HS := hid (stepV_bad (dec_broken HK.out hk1 hlt2 (by rw [← HZ.out]; exact hz2)))
        clear hz2
        go_wp2
        go_ret3
        exact ⟨by rw [HS.out]; rfl, rfl⟩
    · obtain rfl : k = 4 := by omega
      have HD := hid (dec_whole HK.out hl HCT.out)
      rw [← HR.out] at HD
      clear hlt2 hk2
      have hr9 := hbd.1
      clear hbd
      by_cases hg : 65536 ≤ r ∧ r ≤ 1114111 ∧ ¬ (55296 ≤ r ∧ r < 57344)
      · have HS := hid (stepV_ok (HD.out.trans (if_pos hg)) (by omega))
        obtain ⟨g1, g2, g3⟩ := hg
        have i1 : ¬ (r : Int) < 65536 := by omega
        have i2 : ¬ (1114111 : Int) < r := by omega
        by_cases g4 : r < 55296
        · have i3 : ¬ (55296 : Int) ≤ r := by omega
          clear g1 g2 g3 g4
          go_wp2
          go_ret3
          exact ⟨by rw [HS.out]; rfl, rfl⟩
        · have i3 : (55296 : Int) ≤ r := by omega
          have i4 : ¬ (r : Int) < 57344 := by omega
          clear g1 g2 g3 g4
          go_wp2
          go_ret3
          exact ⟨by rw [HS.out]; rfl, rfl⟩
      · have HS := hid (stepV_bad (HD.out.trans (if_neg hg)))
        by_cases g1 : r < 65536
        · have i1 : (r : Int) < 65536 := by omega
          clear g1 hg
          go_wp2
          all_goals (go_ret3; exact ⟨by rw [HS.out]; rfl, rfl⟩)
        · have i1 : ¬ (r : Int) < 65536 := by omega
          by_cases g2 : r ≤ 1114111
          · have i2 : ¬ (1114111 : Int) < r := by omega
            have i3 : (55296 : Int) ≤ r := by omega
            have i4 : (r : Int) < 57344 := by omega
            clear g1 hg g2
            go_wp2
            go_ret3
            exact ⟨by rw [HS.out]; rfl, rfl⟩
          · have i2 : (1114111 : Int) < r := by omega
            clear g1 hg g2
            go_wp2
            all_goals (go_ret3; exact ⟨by rw [HS.out]; rfl, rfl⟩)

include hne hc hbig in
/-- step, whatever the bytes -/
theorem step_any : Calls Tryd.prog 40 #[.slice (some ⟨b, off, none⟩) l.length cap] w fun e w' => e = .returned (stepV l) ∧ w' = w := by
  by_cases h1 : (l.getD 0 0).toNat < 128
  · exact step_ascii b off cap l w hne hbig hc h1
  by_cases h2 : (l.getD 0 0).toNat < 192
  · exact step_none b off cap l w hne hbig hc (by omega) (.inl h2)
  by_cases h3 : 248 ≤ (l.getD 0 0).toNat
  · exact step_none b off cap l w hne hbig hc (by omega) (.inr h3)
  by_cases h4 : (l.getD 0 0).toNat < 224
  · by_cases hl : l.length < 2
    · exact step_short b off cap l w hne hbig hc 2 32 128 (by unfold Cls; omega) hl
    · exact step_2 b off cap l w hne hbig hc (by omega) h4 (by omega)
  by_cases h5 : (l.getD 0 0).toNat < 240
  · by_cases hl : l.length < 3
    · exact step_short b off cap l w hne hbig hc 3 16 2048 (by unfold Cls; omega) hl
    · exact step_3 b off cap l w hne hbig hc (by omega) h5 (by omega)
  · by_cases hl : l.length < 4
    · exact step_short b off cap l w hne hbig hc 4 8 65536 (by unfold Cls; omega) hl
    · exact step_4 b off cap l w hne hbig hc (by omega) (by omega) (by omega)
end
end Go.Proofs.YtpdacegpjofdeaaDoor
