/- The contract of the document's step: the rune at the head, its width, whether it is one. -/
import Derived.Test.YtpdacegpjofdeaaDoorStepL
import Derived.Test.YtpdacegpjofdeaaDoorMem
import Derived.Test.YtpdacegpjofdeaaDoorProg
set_option linter.all false
namespace Go.Proofs.YtpdacegpjofdeaaDoor
open Go.RowKit Go.Hub Go.Lib

theorem getD_some {l : List UInt8} {k : Nat} (h : k < l.length) : l[k]? = some (l.getD k 0) := by simp [List.getD, h]
section
variable (b off cap : Nat) (l : List UInt8) (w : World) (hne : 0 < l.length) (hbig : l.length ≤ maxLen)
  (hc : ∀ j, j < l.length → w.cell? ⟨b, off + j, none⟩ = some (.int .u8 ((l.getD j 0).toNat : Int)))
set_option maxRecDepth 100000 in
set_option maxHeartbeats 2000000 in
include hne hc hbig in
theorem step_ascii (h : (l.getD 0 0).toNat < 128) : Calls Tryd.prog 40 #[.slice (some ⟨b, off, none⟩) l.length cap] w fun e w' => e = .returned (stepV l) ∧ w' = w := by
  have h0 := hc 0 hne
  rw [Nat.add_zero] at h0
  have hlt := (l.getD 0 0).toNat_lt
  have hl2 : (0 : Int) < (l.length : Int) := by omega
  have HS := hid (stepV_ok (dec_ascii h) (by omega))
  obtain ⟨x, hx⟩ : ∃ x, x = (l.getD 0 0).toNat := ⟨_, rfl⟩
  rw [← hx] at h0 h hlt HS
  have hi : (x : Int) < 128 := by omega
  clear hc hx
  go_enter Tryd.func40, Tryd.ntmps40
  go_wp2
  go_ret3
  exact ⟨by rw [HS.out]; rfl, rfl⟩
set_option maxRecDepth 100000 in
set_option maxHeartbeats 2000000 in
include hne hc hbig in
theorem step_none (h1 : 128 ≤ (l.getD 0 0).toNat) (h2 : (l.getD 0 0).toNat < 192 ∨ 248 ≤ (l.getD 0 0).toNat) : Calls Tryd.prog 40 #[.slice (some ⟨b, off, none⟩) l.length cap] w fun e w' => e = .returned (stepV l) ∧ w' = w := by
  have h0 := hc 0 hne
  rw [Nat.add_zero] at h0
  have hlt := (l.getD 0 0).toNat_lt
  have hl2 : (0 : Int) < (l.length : Int) := by omega
  have HS := hid (stepV_bad (dec_none h1 h2))
  obtain ⟨x, hx⟩ : ∃ x, x = (l.getD 0 0).toNat := ⟨_, rfl⟩
  rw [← hx] at h0 h1 h2 hlt
  clear hc hx
  rcases h2 with h2 | h2
  · have hi : ¬ (x : Int) < 128 := by omega
    have hi2 : (x : Int) < 192 := by omega
    go_enter Tryd.func40, Tryd.ntmps40
    go_wp2
    go_ret3
    exact ⟨by rw [HS.out]; rfl, rfl⟩
  · have hi : ¬ (x : Int) < 128 := by omega
    have hi2 : (248 : Int) ≤ x := by omega
    go_enter Tryd.func40, Tryd.ntmps40
    go_wp2
    go_ret3
    exact ⟨by rw [HS.out]; rfl, rfl⟩
set_option maxRecDepth 100000 in
set_option maxHeartbeats 4000000 in
include hne hc hbig in
theorem step_short (n m least : Nat) (h : Cls (l.getD 0 0).toNat n m least) (hl : l.length < n) : Calls Tryd.prog 40 #[.slice (some ⟨b, off, none⟩) l.length cap] w fun e w' => e = .returned (stepV l) ∧ w' = w := by
  have h0 := hc 0 hne
  rw [Nat.add_zero] at h0
  have hlt := (l.getD 0 0).toNat_lt
  have hl2 : (0 : Int) < (l.length : Int) := by omega
  have HS := hid (stepV_bad (dec_short h hl))
  obtain ⟨x, hx⟩ : ∃ x, x = (l.getD 0 0).toNat := ⟨_, rfl⟩
  rw [← hx] at h0 h hlt
  have hm5 := u8_m5 ⟨x, hlt⟩
  have hm4 := u8_m4 ⟨x, hlt⟩
  have hm3 := u8_m3 ⟨x, hlt⟩
  clear hc hx
  rcases h with ⟨a1, a2, rfl, rfl, rfl⟩ | ⟨a1, a2, rfl, rfl, rfl⟩ | ⟨a1, a2, rfl, rfl, rfl⟩
  all_goals
    have hi : ¬ (x : Int) < 128 := by omega
    have hi2 : (192 : Int) ≤ x := by omega
    have hi3 : (l.length : Int) < 4 := by omega
  · have hi4 : (x : Int) < 224 := by omega
    have hi5 : (l.length : Int) < 2 := by omega
    go_enter Tryd.func40, Tryd.ntmps40
    go_wp2
    go_ret3
    exact ⟨by rw [HS.out]; rfl, rfl⟩
  · have hi4 : (224 : Int) ≤ x := by omega
    have hi6 : (x : Int) < 240 := by omega
    have hi5 : (l.length : Int) < 3 := by omega
    go_enter Tryd.func40, Tryd.ntmps40
    go_wp2
    go_ret3
    exact ⟨by rw [HS.out]; rfl, rfl⟩
  · have hi4 : (240 : Int) ≤ x := by omega
    have hi6 : (x : Int) < 248 := by omega
    go_enter Tryd.func40, Tryd.ntmps40
    go_wp2
    go_ret3
    exact ⟨by rw [HS.out]; rfl, rfl⟩
end
end Go.Proofs.YtpdacegpjofdeaaDoor
