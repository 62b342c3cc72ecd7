/- Plain law: a text with a slash in it is whole just if what stands ahead of the slash and behind it is. -/
import Derived.Test.YtpdacegpjofdeaaDoorUtf
set_option linter.all false
namespace Go.Hub
open Go.Lib
set_option maxHeartbeats 1000000 in
theorem decodeN_cont (n b0 b1 b2 b3 : Nat) : (1 < (decodeN n b0 b1 b2 b3).2 → b1 / 64 = 2) ∧ (2 < (decodeN n b0 b1 b2 b3).2 → b2 / 64 = 2) ∧ (3 < (decodeN n b0 b1 b2 b3).2 → b3 / 64 = 2) ∧ (decodeN n b0 b1 b2 b3).2 ≤ 4 := by
  unfold decodeN
  repeat' split
  all_goals refine ⟨fun h => ?_, fun h => ?_, fun h => ?_, ?_⟩
  all_goals first | omega | (simp only [] at *; omega)
theorem ok_cons (l : List UInt8) (hne : l ≠ []) : okL l = ((!badL l && !((decodeL l).1 == 0)) && okL (l.drop (decodeL l).2)) := by
  unfold okL
  rw [rw_step l hne, List.all_cons]
  rfl
theorem rw_app (a t : List UInt8) (ha : okL a = true) : rwl (a ++ t) = rwl a ++ rwl t := by
  have e := enc_runes a ha
  have h1 := rw_enc (runesL a) t
  have h2 := rw_enc (runesL a) []
  rw [e] at h1 h2
  rw [List.append_nil, rw_nil, List.append_nil] at h2
  rw [h1, h2]
theorem ok_app (a t : List UInt8) (ha : okL a = true) : okL (a ++ t) = okL t := by
  have e : okL (a ++ t) = (okL a && okL t) := by
    unfold okL
    rw [rw_app a t ha, List.all_append]
  rw [e, ha, Bool.true_and]
theorem width_slash (a t : List UInt8) (hne : a ≠ []) : (decodeL (a ++ 47 :: t)).2 ≤ a.length := by
  have hl : 0 < a.length := List.length_pos_iff.2 hne
  have h47 : (a ++ 47 :: t).getD a.length 0 = 47 := by simp [List.getD]
  rw [decodeL_N]
  obtain ⟨h1, h2, h3, h4⟩ := decodeN_cont (a ++ 47 :: t).length ((a ++ 47 :: t).getD 0 0).toNat ((a ++ 47 :: t).getD 1 0).toNat ((a ++ 47 :: t).getD 2 0).toNat ((a ++ 47 :: t).getD 3 0).toNat
  rcases (show a.length = 1 ∨ a.length = 2 ∨ a.length = 3 ∨ 4 ≤ a.length by omega) with e | e | e | e
  · rw [e] at h47
    rw [h47] at h1
    have : (47 : UInt8).toNat = 47 := rfl
    rw [e, h47]; rw [h47] at h2 h3 h4; omega
  · rw [e] at h47
    rw [h47] at h2
    have : (47 : UInt8).toNat = 47 := rfl
    rw [e, h47]; rw [h47] at h1 h3 h4; omega
  · rw [e] at h47
    rw [h47] at h3
    have : (47 : UInt8).toNat = 47 := rfl
    rw [e, h47]; rw [h47] at h1 h2 h4; omega
  · omega
theorem ok_head (a t : List UInt8) : okL (a ++ 47 :: t) = true → okL a = true := by
  refine rw_ind (P := fun a => okL (a ++ 47 :: t) = true → okL a = true) (fun _ => rfl) (fun a hne ih h => ?_) a
  have hw := width_slash a t hne
  have hd : decodeL a = decodeL (a ++ 47 :: t) := by
    have := decodeL_take (a ++ 47 :: t) a.length (by simp) hw
    rw [List.take_left' rfl] at this
    exact this
  rw [ok_cons _ (by simp)] at h
  rw [ok_cons _ hne]
  unfold badL at h ⊢
  rw [hd]
  rw [List.drop_append_of_le_length hw] at h
  rw [← hd] at h ⊢
  simp only [Bool.and_eq_true] at h ⊢
  exact ⟨h.1, ih h.2⟩
theorem ok_slash (t : List UInt8) : okL (47 :: t) = okL t := ok_app [47] t (by kernel_rfl)
theorem ok_join (a t : List UInt8) : okL (a ++ 47 :: t) = (okL a && okL t) := by
  cases h : okL a
  · rw [Bool.false_and]
    cases h' : okL (a ++ 47 :: t)
    · rfl
    · rw [ok_head a t h'] at h; cases h
  · rw [ok_app a _ h, ok_slash, Bool.true_and]
theorem chk_is (l : List UInt8) : decide (chk l < 0) = okL l := by
  rcases chk_ok l with ⟨h, h1⟩ | ⟨h, h1⟩
  · rw [h, h1]; rfl
  · rw [h1]; exact decide_eq_false (by omega)
end Go.Hub
