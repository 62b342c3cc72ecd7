/- The contracts of both Checks. -/
import Derived.Test.YtpdacegpjofdeaaDoorB
import Derived.Test.YtpdacegpjofdeaaDoorLays
set_option linter.all false
namespace Go.Proofs.YtpdacegpjofdeaaDoor
open Go.RowKit Go.Hub Go.Lib

/-! ### the tables of unicode/utf8 -/
def Tabs (w : World) : Prop := Lib.Utf8Tabs 0 1 w
theorem Tabs.size {w : World} (h : Tabs w) : 2 ≤ w.heap.size := by
  have : 1 < w.heap.size := World.block_lt_of_cell? w _ (h.2 0 (by omega)).1
  omega
theorem Tabs.below {w w' : World} {B : Nat} (h : Tabs w) (hb : Below B w w') (hB : 2 ≤ B) : Tabs w' :=
  ⟨fun c hc => (hb.cell (p := ⟨0, c, none⟩) (by show 0 < B; omega)).trans (h.1 c hc), fun i hi => ⟨(hb.cell (p := ⟨1, 2 * i, none⟩) (by show 1 < B; omega)).trans (h.2 i hi).1, (hb.cell (p := ⟨1, 2 * i + 1, none⟩) (by show 1 < B; omega)).trans (h.2 i hi).2⟩⟩
theorem Tabs.old {w w' : World} (h : Tabs w) (hb : Below w.heap.size w w') : Tabs w' := h.below hb h.size
theorem get_getD (l : List UInt8) (j : Nat) : (⟨l.toArray⟩ : ByteArray).get! j = l.getD j 0 := by
  rw [← getD_get!']

/-- DecodeRune -/
theorem dec_any (b off cap : Nat) (l : List UInt8) (w : World) (hne : 0 < l.length) (hT : Tabs w) (hc : ∀ j, j < l.length → w.cell? ⟨b, off + j, none⟩ = some (.int .u8 ((l.getD j 0).toNat : Int))) :
    Calls Tryd.prog 39 #[.slice (some ⟨b, off, none⟩) l.length cap] w fun e w' => e = .returned (.tuple #[.int .i32 (decodeL l).1, .int .i64 (decodeL l).2]) ∧ Below w.heap.size w w' := by
  have hs : (⟨l.toArray⟩ : ByteArray).size = l.length := by show l.toArray.size = l.length; simp
  have h := Any7.utf8_DecodeRune u8lays ⟨l.toArray⟩ b off cap w hT (fun j hj => by rw [hs] at hj; rw [get_getD]; exact hc j hj)
  have e : Lib.decodeGo (⟨l.toArray⟩ : ByteArray) = decodeL l := by
    unfold Lib.decodeGo
    rw [if_neg (by rw [hs]; omega)]
    rfl
  rw [hs, e] at h
  exact h
theorem Bs_cells {E : List TypeId} {B : Nat} {w : World} {A : Option Addr} {n : Nat} {l : List UInt8} (h : Bs E B w A n l) (hn : 0 < n) : ∃ b off, A = some ⟨b, off, none⟩ ∧ ∀ j, j < n → w.cell? ⟨b, off + j, none⟩ = some (.int .u8 ((l.getD j 0).toNat : Int)) := by
  obtain ⟨b, off, e, _, _, hc⟩ := h.2 hn
  exact ⟨b, off, e, fun j hj => hc j _ (getD_some (by rw [h.1]; exact hj))⟩
theorem drop_cells {b off : Nat} {w : World} {l : List UInt8} (hc : ∀ j, j < l.length → w.cell? ⟨b, off + j, none⟩ = some (.int .u8 ((l.getD j 0).toNat : Int))) (i : Nat) :
    ∀ j, j < (l.drop i).length → w.cell? ⟨b, off + i + j, none⟩ = some (.int .u8 (((l.drop i).getD j 0).toNat : Int)) := fun j hj => by
  rw [getD_dropU, Nat.add_assoc]
  exact hc _ (by rw [List.length_drop] at hj; omega)
theorem chkf_at (l : List UInt8) (f i : Nat) (hi : i < l.length) (hf : l.length - i ≤ f) :
    ∃ f', f = f' + 1 ∧ chkf f i (l.drop i) = if badL (l.drop i) || (decodeL (l.drop i)).1 == 0 then (i : Int) else chkf f' (i + (decodeL (l.drop i)).2) (l.drop (i + (decodeL (l.drop i)).2)) := by
  obtain ⟨f', rfl⟩ : ∃ f', f = f' + 1 := ⟨f - 1, by omega⟩
  refine ⟨f', rfl, ?_⟩
  have hne : l.drop i ≠ [] := by
    intro h
    have := congrArg List.length h
    simp at this
    omega
  simp only [chkf]
  rw [if_neg hne, List.drop_drop]

set_option maxRecDepth 100000 in
set_option maxHeartbeats 4000000 in
/-- the document's Check -/
theorem chkR_any (E : List TypeId) (B : Nat) (A : Option Addr) (cap : Nat) (l : List UInt8) (w : World) (h : Bs E B w A l.length l) (hl : l.length ≤ cap) (hcap : cap ≤ maxLen) :
    Calls Tryd.prog 35 #[.slice A l.length cap] w fun e w' => e = .returned (.int .i64 (chk l)) ∧ w' = w := by
  unfold maxLen at hcap
  go_enter Tryd.func35, Tryd.ntmps35
  go_wp2
  go_loopg [3] l.length (fun g v wr => ∃ i f : Nat, i + g = l.length ∧ v = .int .i64 i ∧ l.length - i ≤ f ∧ chkf f i (l.drop i) = chk l ∧ w = wr)
  case atStart => exact ⟨0, l.length, by omega, rfl, by omega, by simp [chk], rfl⟩
  case round =>
    obtain ⟨i, f, hi, rfl, hf, hk, rfl⟩ := hrel
    have HK := hid hk
    clear hk
    by_cases hlt : i < l.length
    · obtain ⟨b, off, rfl, hcell⟩ := Bs_cells h (by omega)
      have HC := hid hcell
      obtain ⟨f', rfl, hstep⟩ := chkf_at l f i hlt hf
      have HS := hid hstep
      have HI := hid hi
      have HF := hid hf
      have hdl : (l.drop i).length = l.length - i := List.length_drop
      have hw := decodeL_width (l.drop i)
      have hle := decodeL_le (l.drop i) (by intro h; have := congrArg List.length h; simp at this; omega)
      have hi2 : (i : Int) < (l.length : Int) := by omega
      have hi3 : (i : Int) ≤ (cap : Int) := by omega
      have hstp := step_any b (off + i) (cap - i) (l.drop i) w (by omega) (by unfold maxLen; omega) (drop_cells hcell i)
      rw [hdl] at hstp hle
      clear hcell hstep hi hf hdl h
      have hci : ¬ cap = i := by omega
      go_wp2_with fail
      refine hstp.mono ?_
      rintro e w1 ⟨rfl, rfl⟩
      obtain ⟨r, hr⟩ : ∃ r, r = decodeL (l.drop i) := ⟨_, rfl⟩
      unfold stepV
      rw [← hr] at hw hle ⊢
      have HR := hid hr
      clear hr hstp hlt
      cases hb : badL (l.drop i)
      · by_cases hz : r.1 = 0
        · have hz1 : ((r.1 : Int) == 0) = true := by simp; omega
          have HE := hid (show chk l = (i : Int) by rw [← HK.out, HS.out, ← HR.out, hz]; simp)
          clear hz hb
          go_wp2
          go_ret
          exact ⟨by rw [HE.out]; rfl, rfl⟩
        · have hz1 : ((r.1 : Int) == 0) = false := by simp; omega
          have HE := hid (show chkf f' (i + r.2) (l.drop (i + r.2)) = chk l by
            rw [← HK.out, HS.out, ← HR.out, hb]
            simp [hz])
          clear hz hb
          go_wp2
          go_roundg (gk - r.2)
          case measure => have := HI.out; omega
          case rel => exact ⟨i + r.2, f', by have := HI.out; omega, by go_num, by have := HF.out; omega, HE.out, rfl⟩
      · have HE := hid (show chk l = (i : Int) by rw [← HK.out, HS.out, hb]; simp)
        clear hb
        go_wp2
        go_ret
        exact ⟨by rw [HE.out]; rfl, rfl⟩
    · have hi2 : ¬ (i : Int) < (l.length : Int) := by omega
      have HE := hid (show chk l = -1 by
        rw [← HK.out, List.drop_eq_nil_of_le (by omega), chkf_nil])
      clear hf hlt hi
      go_wp2
      go_ret
      exact ⟨by rw [HE.out]; rfl, rfl⟩

theorem dec_zero (l : List UInt8) (hl : 0 < l.length) : (decodeL l).1 = 0 ↔ (l.getD 0 0).toNat = 0 := by
  rw [decodeL_N]
  rcases decodeN_shape l.length (l.getD 0 0).toNat (l.getD 1 0).toNat (l.getD 2 0).toNat (l.getD 3 0).toNat with ⟨c, e⟩ | ⟨c1, c2, c3, cv, e⟩ | ⟨c1, c2, c3, c4, cv, cs, e⟩ | ⟨c1, c2, c3, c4, c5, cv, cw, e⟩ | e
  · rw [e]
  · rw [e]; dsimp only; omega
  · rw [e]; dsimp only; omega
  · rw [e]; dsimp only; omega
  · have hb := (l.getD 0 0).toNat_lt
    by_cases h : (l.getD 0 0).toNat < 128
    · unfold decodeN at e
      rw [if_pos h] at e
      have := congrArg Prod.fst e
      dsimp only at this
      omega
    · rw [e]; dsimp only; omega

set_option maxRecDepth 100000 in
set_option maxHeartbeats 4000000 in
/-- utf's Check -/
theorem chk_any (E : List TypeId) (B : Nat) (A : Option Addr) (cap : Nat) (l : List UInt8) (w : World) (hT : Tabs w) (h : Bs E B w A l.length l) (hl : l.length ≤ cap) (hcap : cap ≤ maxLen) :
    Calls Tryd.prog 34 #[.slice A l.length cap] w fun e w' => e = .returned (.int .i64 (chk l)) ∧ Below w.heap.size w w' := by
  unfold maxLen at hcap
  go_enter Tryd.func34, Tryd.ntmps34
  go_wp2
  go_loopg [3] l.length (fun g v wr => ∃ i f : Nat, i + g = l.length ∧ v = .int .i64 i ∧ l.length - i ≤ f ∧ chkf f i (l.drop i) = chk l ∧ Below w.heap.size w wr)
  case atStart => exact ⟨0, l.length, by omega, rfl, by omega, by simp [chk], Below.refl _ _⟩
  case round =>
    obtain ⟨i, f, hi, rfl, hf, hk, hB⟩ := hrel
    have HK := hid hk
    clear hk
    by_cases hlt : i < l.length
    · have hT2 := hT.old hB
      obtain ⟨b, off, rfl, hcell⟩ := Bs_cells (h.same (.of_below hB)) (by omega)
      have HB := hid hB
      have HC := hid hcell
      obtain ⟨f', rfl, hstep⟩ := chkf_at l f i hlt hf
      have HS := hid hstep
      have HI := hid hi
      have HF := hid hf
      have hdl : (l.drop i).length = l.length - i := List.length_drop
      have hw := decodeL_width (l.drop i)
      have hne : l.drop i ≠ [] := by intro h; have := congrArg List.length h; simp at this; omega
      have hle := decodeL_le (l.drop i) hne
      have hi2 : (i : Int) < (l.length : Int) := by omega
      have hi3 : (i : Int) ≤ (cap : Int) := by omega
      have hstp := dec_any b (off + i) (cap - i) (l.drop i) wr (by omega) hT2 (drop_cells hcell i)
      rw [hdl] at hstp hle
      have hzz := dec_zero (l.drop i) (by omega)
      rw [getD_dropU, Nat.add_zero] at hzz
      have hci : ¬ cap = i := by omega
      have hcl := hcell i hlt
      have HH := hid h
      clear hcell hstep hi hf hdl h hT2 hB hne
      go_wp2_with fail
      refine hstp.mono ?_
      rintro e w1 ⟨rfl, hb1⟩
      have hcl := (hb1.cell (p := ⟨b, off + i, none⟩) (World.block_lt_of_cell? _ _ hcl)).trans hcl
      have HB := hid (HB.out.trans (hb1.mono HB.out.size))
      obtain ⟨z, hz⟩ : ∃ z, z = (l.getD i 0).toNat := ⟨_, rfl⟩
      obtain ⟨r, hr⟩ : ∃ r, r = decodeL (l.drop i) := ⟨_, rfl⟩
      rw [← hr] at hw hle hzz ⊢
      rw [← hz] at hcl hzz
      have HR := hid hr
      clear hr hstp hlt hz hb1
      by_cases h1 : r.1 = 0
      · have hz1 : ((z : Int) == 0) = true := by simp; omega
        have HE := hid (show chk l = (i : Int) by rw [← HK.out, HS.out, ← HR.out, h1]; simp)
        clear h1 hzz
        go_wp2
        go_ret
        exact ⟨by rw [HE.out]; rfl, HB.out⟩
      · have hz1 : ((z : Int) == 0) = false := by simp; omega
        by_cases h2 : r.1 = 65533
        · have hz2 : ((r.1 : Int) == 65533) = true := by simp; omega
          by_cases h3 : r.2 = 1
          · have hz3 : (r.2 : Int) < 2 := by omega
            have HE := hid (show chk l = (i : Int) by rw [← HK.out, HS.out]; unfold badL; rw [← HR.out, h2, h3]; simp)
            clear h1 hzz h2 h3
            go_wp2
            go_ret
            exact ⟨by rw [HE.out]; rfl, HB.out⟩
          · have hz3 : ¬ (r.2 : Int) < 2 := by omega
            have HE := hid (show chkf f' (i + r.2) (l.drop (i + r.2)) = chk l by
              rw [← HK.out, HS.out]; unfold badL; rw [← HR.out]
              simp [h1, h3])
            clear h1 hzz h2 h3
            go_wp2
            go_roundg (gk - r.2)
            case measure => have := HI.out; omega
            case rel => exact ⟨i + r.2, f', by have := HI.out; omega, by go_num, by have := HF.out; omega, HE.out, HB.out⟩
        · have hz2 : ((r.1 : Int) == 65533) = false := by simp; omega
          have HE := hid (show chkf f' (i + r.2) (l.drop (i + r.2)) = chk l by
            rw [← HK.out, HS.out]; unfold badL; rw [← HR.out]
            simp [h1, h2])
          clear h1 hzz h2
          go_wp2
          go_roundg (gk - r.2)
          case measure => have := HI.out; omega
          case rel => exact ⟨i + r.2, f', by have := HI.out; omega, by go_num, by have := HF.out; omega, HE.out, HB.out⟩
    · have hi2 : ¬ (i : Int) < (l.length : Int) := by omega
      have HE := hid (show chk l = -1 by
        rw [← HK.out, List.drop_eq_nil_of_le (by omega), chkf_nil])
      clear hf hlt hi
      go_wp2
      go_ret
      exact ⟨by rw [HE.out]; rfl, hB⟩
end Go.Proofs.YtpdacegpjofdeaaDoor
