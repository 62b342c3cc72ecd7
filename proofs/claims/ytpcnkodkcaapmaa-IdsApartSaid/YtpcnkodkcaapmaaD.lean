/- 'known' and 'Place'. -/
import Derived.Test.YtpcnkodkcaapmaaC
set_option linter.all false
namespace Go.Proofs.Ytpcnkodkcaapmaa
open Go.RowKit Go.Hub Go.Ids

theorem clamp2 : clamp 2 = 2 := by decide
theorem k1 : takeN 2 [] 0 = 1 ∧ takeT 2 [] 0 = 1 ∧ takeS 2 [] 0 = [1] := by
  have h : nxt [] 0 = 1 := by rw [nxt_free _ _ (by simp)]; rfl
  simp [takeN, takeT, takeS, h]
theorem k2 : takeN 2 [1] 1 = 2 ∧ takeT 2 [1] 1 = 2 ∧ takeS 2 [1] 1 = [2, 1] := by
  have h : nxt [1] 1 = 2 := by rw [nxt_free _ _ (by decide)]; rfl
  simp [takeN, takeT, takeS, h]
theorem k3 : takeN 2 [2, 1] 2 = 0 ∧ takeT 2 [2, 1] 2 = 2 ∧ takeS 2 [2, 1] 2 = [2, 1] := by
  simp [takeN, takeT, takeS]

set_option maxHeartbeats 1000000 in
theorem known_any (w : World) : Calls Try.prog 6 #[] w fun e w' => e = .returned (.bool true) ∧ Kept [] w w' := by
  go_enter Try.func6, Try.ntmps6
  go_wp2_with fail
  refine (newIds 2 w).mono ?_
  rintro e w1 ⟨rfl, h1, q1⟩
  rw [clamp2] at h1
  go_wp2_with fail
  refine (take_any _ _ _ _ _ _ h1 (by omega) (by omega)).mono ?_
  rw [k1.1, k1.2.1, k1.2.2]
  rintro e w2 ⟨rfl, h2, q2⟩
  go_wp2_with fail
  refine (take_any _ _ _ _ _ _ h2 (by omega) (by omega)).mono ?_
  rw [k2.1, k2.2.1, k2.2.2]
  rintro e w3 ⟨rfl, h3, q3⟩
  go_wp2_with fail
  refine (take_any _ _ _ _ _ _ h3 (by omega) (by omega)).mono ?_
  rw [k3.1, k3.2.1, k3.2.2]
  rintro e w4 ⟨rfl, h4, q4⟩
  simp only [show decide ((List.length ([] : List Int) : Int) < 2) = true from rfl, show decide ((List.length [(1 : Int)] : Int) < 2) = true from rfl, show decide ((List.length [(2 : Int), 1] : Int) < 2) = false from rfl]
  go_wp2_with fail
  refine (free_any _ _ _ _ _ _ (wfi (by omega)) _ h4).mono ?_
  rw [show decide ((1 : Int) ∈ [(2 : Int), 1]) = true from rfl, show List.erase [(2 : Int), 1] 1 = [2] from rfl]
  rintro e w5 ⟨rfl, h5, q5⟩
  go_wp2_with fail
  refine (free_any _ _ _ _ _ _ (wfi (by omega)) _ h5).mono ?_
  rw [show decide ((1 : Int) ∈ [(2 : Int)]) = false from rfl, show List.erase [(2 : Int)] 1 = [2] from rfl]
  rintro e w6 ⟨rfl, h6, q6⟩
  go_wp2_with fail
  refine (has_any _ _ _ _ _ _ (wfi (by omega)) _ h6).mono ?_
  rw [show decide ((2 : Int) ∈ [(2 : Int)]) = true from rfl]
  rintro e w7 ⟨rfl, rfl⟩
  go_wp2_with fail
  refine (has_any _ _ _ _ _ _ (wfi (by omega)) _ h6).mono ?_
  rw [show decide ((1 : Int) ∈ [(2 : Int)]) = false from rfl]
  rintro e w7 ⟨rfl, rfl⟩
  go_wp2_with fail
  refine (len_any _ _ _ _ _ _ h6).mono ?_
  rintro e w7 ⟨rfl, rfl⟩
  have hk : Kept [] w w6 := ((((q1.trans q2 (by simp <;> omega)).trans q3 (by simp <;> omega)).trans q4 (by simp <;> omega)).trans q5 (by simp <;> omega)).trans q6 (by simp <;> omega)
  go_wp2
  go_ret
  exact ⟨rfl, hk⟩

theorem tmod_fix (k n : Int) (hn : 0 < n) : (k.tmod n < 0 → k.tmod n + n = k % n) ∧ (¬ k.tmod n < 0 → k.tmod n = k % n) := by
  have h1 := Int.tmod_add_mul_tdiv k n
  have h2 := Int.emod_add_mul_ediv k n
  have h3 := Int.emod_nonneg k (show n ≠ 0 by omega)
  have h4 := Int.emod_lt_of_pos k hn
  rw [Int.tmod_eq_emod]
  split
  · constructor <;> intro h <;> omega
  · rename_i hc
    have : (n.natAbs : Int) = n := by omega
    constructor <;> intro h <;> omega
theorem tmod_bd (k n : Int) (hn : 0 < n) : -n < k.tmod n ∧ k.tmod n < n := by
  have h3 := Int.emod_nonneg k (show n ≠ 0 by omega)
  have h4 := Int.emod_lt_of_pos k hn
  rw [Int.tmod_eq_emod]
  split <;> omega

set_option maxHeartbeats 400000 in
theorem place_any (k n : Int) (hn : 0 < n) (hn2 : n ≤ 1000000) (w : World) :
    Calls Try.prog 7 #[.int .i64 k, .int .i64 n] w fun e w' => e = .returned (.int .i64 (k % n)) ∧ w = w' := by
  have hb := tmod_bd k n hn
  have hf := hid (tmod_fix k n hn)
  by_cases hneg : k.tmod n < 0
  · go_enter Try.func7, Try.ntmps7
    go_wp2
    go_ret
    exact ⟨by rw [← hf.out.1 hneg]; rfl, rfl⟩
  · go_enter Try.func7, Try.ntmps7
    go_wp2
    go_ret
    exact ⟨by rw [← hf.out.2 hneg]; rfl, rfl⟩
end Go.Proofs.Ytpcnkodkcaapmaa
