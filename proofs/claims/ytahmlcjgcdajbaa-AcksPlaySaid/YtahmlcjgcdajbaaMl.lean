/- AcksCut: the plain laws. -/
import Derived.Test.YtahmlcjgcdajbaaMf
set_option linter.all false
namespace Go.Proofs.Ytahmlcjgcdajbaa
open Go.RowKit Go.Hub
theorem nextOk_iff {p : Option Dt} {d : Dt} : nextOk p d = true ↔ ∀ q, p = some q → lt2 q d := by
  cases p with
  | none => simp [nextOk]
  | some q => simp only [nextOk, decide_eq_true_eq, lives_lt]; simp
theorem ins_right : ∀ (l : List Dt) (p : Option Dt) (d : Dt), rightFrom p l = true → mayB d = true → (∀ q, p = some q → lt2 q d) → rightFrom p (insD l d) = true
  | [], p, d, _, hd, hp => by simp [insD, rightFrom, hd, nextOk_iff.2 hp]
  | x :: r, p, d, h, hd, hp => by
    simp only [rightFrom, Bool.and_eq_true] at h
    obtain ⟨⟨h1, h2⟩, h3⟩ := h
    unfold insD
    split
    · rename_i hx
      simp only [rightFrom, h1, h2, Bool.true_and]
      exact ins_right r (some x) d h3 hd (fun q hq => by injection hq with hq; subst hq; exact hx)
    · split
      · rename_i hx
        simp only [rightFrom, hd, h1, h3, nextOk_iff.2 hp, Bool.true_and, Bool.and_true]
        exact nextOk_iff.2 fun q hq => by injection hq with hq; subst hq; exact hx
      · have e1 : mayB { x with n := d.n } = true := by
          simp only [mayB, Bool.and_eq_true, decide_eq_true_eq] at h1 hd ⊢
          omega
        have e2 : nextOk p { x with n := d.n } = true := nextOk_iff.2 fun q hq => nextOk_iff.1 h2 q hq
        simp only [rightFrom, e1, e2, Bool.true_and]
        cases r with
        | nil => rfl
        | cons y r =>
          simp only [rightFrom, Bool.and_eq_true] at h3 ⊢
          exact ⟨⟨h3.1.1, nextOk_iff.2 fun q hq => by injection hq with hq; subst hq; exact nextOk_iff.1 h3.1.2 x rfl⟩, h3.2⟩
theorem addD_right {l : List Dt} (h : rightB l = true) (d : Dt) : rightB (addD l d) = true := by
  unfold addD
  rw [if_neg (by simp [h])]
  split
  · exact h
  · rename_i hn
    exact ins_right l none d h (by cases hm : mayB d <;> simp_all) (fun q hq => by cases hq)
theorem fold_right : ∀ (us : List Int) (acc : List Dt), rightB acc = true → rightB (us.foldl addN acc) = true
  | [], acc, h => h
  | u :: us, acc, h => fold_right us _ (addD_right h _)
theorem ofL_right (l : List Int) : rightB (ofL l) = true := fold_right l [] rfl
theorem within_self {l : List Dt} (h : rightB l = true) : withinB l l = true := by
  unfold withinB
  rw [h, Bool.true_and, Bool.true_and, Bool.not_eq_true', List.any_eq_false]
  intro x hx
  obtain ⟨i, hi⟩ := List.getElem?_of_mem hx
  rw [topI_some h hi]
  simp
theorem insD_node {P : Int → Prop} : ∀ (l : List Dt) (d : Dt), P d.node → (∀ x ∈ l, P x.node) → ∀ x ∈ insD l d, P x.node
  | [], d, hd, _ => by simpa [insD] using hd
  | y :: r, d, hd, h => by
    unfold insD
    intro x hx
    split at hx
    · rcases List.mem_cons.1 hx with rfl | hx
      · exact h _ (by simp)
      · exact insD_node r d hd (fun z hz => h z (by simp [hz])) x hx
    · split at hx
      · rcases List.mem_cons.1 hx with rfl | hx
        · exact hd
        · exact h _ hx
      · rcases List.mem_cons.1 hx with rfl | hx
        · exact h y (by simp)
        · exact h x (by simp [hx])
theorem addD_node {P : Int → Prop} {l : List Dt} {d : Dt} (hd : P d.node) (h : ∀ x ∈ l, P x.node) : ∀ x ∈ addD l d, P x.node := by
  unfold addD
  split
  · simp
  · split
    · exact h
    · exact insD_node l d hd h
theorem fold_node {P : Int → Prop} : ∀ (us : List Int) (acc : List Dt), (∀ u, P (dotOf u).node) → (∀ x ∈ acc, P x.node) → ∀ x ∈ us.foldl addN acc, P x.node
  | [], _, _, h => h
  | u :: us, acc, hu, h => fold_node us _ hu (addD_node (hu u) h)
theorem ofL_node (l : List Int) : ∀ x ∈ ofL l, x.node < 3 := fold_node (P := (· < 3)) l [] (fun u => by simp only [dotOf]; omega) (by simp)
theorem mem_ins : ∀ (l : List Dt) (d : Dt), (∀ x ∈ l, x.node ≠ d.node) → d ∈ insD l d
  | [], d, _ => by simp [insD]
  | y :: r, d, h => by
    have hy := h y (by simp)
    unfold insD
    split
    · exact List.mem_cons_of_mem _ (mem_ins r d fun x hx => h x (by simp [hx]))
    · rw [if_pos (by rename_i hn; unfold lt2 at *; omega)]
      simp
theorem within_more {l : List Dt} (h : rightB l = true) (hn : ∀ x ∈ l, x.node < 3) : withinB (addD l ⟨5, 1, 1⟩) l = false := by
  have ht : topI l 5 1 = 0 := topI_none fun x hx he => by have := hn x hx; omega
  have hh : hasB l ⟨5, 1, 1⟩ = false := by simp [hasB, topR, h, ht]
  have e : addD l ⟨5, 1, 1⟩ = insD l ⟨5, 1, 1⟩ := by
    unfold addD
    rw [if_neg (by simp [h]), if_neg (by rw [hh]; simp [mayB])]
  have hm : (⟨5, 1, 1⟩ : Dt) ∈ insD l ⟨5, 1, 1⟩ := mem_ins l _ fun x hx => by have := hn x hx; simp; omega
  unfold withinB
  have : ((addD l ⟨5, 1, 1⟩).any fun x => decide (topI l x.node x.epoch < x.n)) = true := by
    rw [e, List.any_eq_true]
    exact ⟨_, hm, by simp [ht]⟩
  rw [this]
  simp
/-! ### the rows of a cut -/
def goodB (b : Int) : Bool := decide (b % 3 = 1) && decide (b < 200)
def seenOf (own : List Dt) (b : Int) : List Dt := if 200 ≤ b then addD own ⟨5, 1, 1⟩ else own
def hrow (own : List Dt) (b : Int) : Int × Int × List Dt := (1, b % 3, seenOf own b)
def rowsK (p : Nat) (own : List Dt) (bs : List Int) (k : Nat) : Rows15 := (0, 0, []) :: ((bs.take k).map (hrow own) ++ List.replicate (p - 1 - k) (0, 0, []))
theorem rows0 (p : Nat) (own : List Dt) (bs : List Int) (h : 1 ≤ p) (h2 : p ≤ 16) : newRows p = rowsK p own bs 0 := by
  unfold newRows rowsK
  rw [show (Min.min (Max.max (p : Int) 1) 16).toNat = (p - 1) + 1 by omega]
  rfl
theorem rowsK_len {p k : Nat} {own : List Dt} {bs : List Int} (h1 : k ≤ bs.length) (h2 : k + 1 ≤ p) : (rowsK p own bs k).length = p := by
  simp [rowsK]
  omega
theorem rowsK_at {p k : Nat} {own : List Dt} {bs : List Int} (h1 : k ≤ bs.length) (h2 : k + 1 < p) : (rowsK p own bs k)[k + 1]? = some (0, 0, []) := by
  unfold rowsK
  rw [List.getElem?_cons_succ, List.getElem?_append_right (by simp; omega), List.getElem?_replicate, if_pos (by simp; omega)]
theorem hearB_step {p k : Nat} {own s : List Dt} {bs : List Int} {t : Int} (h1 : k ≤ bs.length) (h2 : k + 1 < p) (hs : rightB s = true) (ht : 0 ≤ t) : hearB (rowsK p own bs k) 0 ((k : Int) + 1) 1 t s = true := by
  unfold hearB
  rw [rowsK_len h1 (by omega), show ((k : Int) + 1).toNat = k + 1 by omega, rowsK_at h1 h2, hs]
  simp [later, ht]
  omega
theorem hearR_step {p k : Nat} {own s : List Dt} {bs : List Int} {b : Int} (hb : bs[k]? = some b) (h2 : k + 1 < p) (hs : rightB (seenOf own b) = true) (ht : 0 ≤ b) : hearR (rowsK p own bs k) 0 ((k : Int) + 1) 1 (b % 3) (seenOf own b) = rowsK p own bs (k + 1) := by
  have h1 := (List.getElem?_eq_some_iff.1 hb).1
  unfold hearR
  rw [if_pos (hearB_step (by omega) h2 hs (by omega)), show ((k : Int) + 1).toNat = k + 1 by omega]
  unfold rowsK
  rw [List.set_cons_succ, List.set_append_right _ _ (by simp; omega), List.take_succ, hb]
  have e : k - ((bs.take k).map (hrow own)).length = 0 := by simp; omega
  rw [e, show p - 1 - k = (p - 1 - (k + 1)) + 1 by omega, List.replicate_succ, List.set_cons_zero]
  simp [hrow]
theorem cut_other {own : List Dt} {tm : Int} : ∀ (rs : Rows15) (k : Int), 1 ≤ k → cutFrom 0 own tm k rs = if rs.any (bad own tm) then none else some (rs.map (·.2.2))
  | [], _, _ => rfl
  | r :: rs, k, h => by
    unfold cutFrom
    rw [if_neg (by omega), cut_other rs (k + 1) (by omega), List.any_cons]
    cases bad own tm r <;> cases h : rs.any (bad own tm) <;> simp
theorem cut_rows {own : List Dt} {tm : Int} (r : Int × Int × List Dt) (rs : Rows15) : cutL (r :: rs) 0 own tm = if rs.any (bad own tm) then none else some (rs.map (·.2.2)) := by
  unfold cutL cutFrom
  rw [if_pos rfl]
  exact cut_other rs _ (by omega)
theorem bad_row {own : List Dt} (h : rightB own = true) (hn : ∀ x ∈ own, x.node < 3) (b : Int) : bad own 1 (hrow own b) = !goodB b := by
  unfold bad hrow goodB seenOf
  split
  · rename_i hb
    rw [within_more h hn]
    simp
    omega
  · rename_i hb
    rw [within_self h]
    simp
    omega
theorem cut_short {p k : Nat} {own : List Dt} {bs : List Int} (h : k + 1 < p) : cutL (rowsK p own bs k) 0 own 1 = none := by
  unfold rowsK
  rw [cut_rows, if_pos]
  rw [List.any_append, Bool.or_eq_true]
  right
  rw [List.any_eq_true]
  exact ⟨(0, 0, []), List.mem_replicate.2 ⟨by omega, rfl⟩, by simp [bad]⟩
theorem cut_whole {p k : Nat} {own : List Dt} {bs : List Int} (h : k + 1 = p) (hr : rightB own = true) (hn : ∀ x ∈ own, x.node < 3) : cutL (rowsK p own bs k) 0 own 1 = if (bs.take k).all goodB then some ((bs.take k).map (seenOf own)) else none := by
  unfold rowsK
  rw [cut_rows, show p - 1 - k = 0 by omega]
  have e : (((bs.take k).map (hrow own) ++ List.replicate 0 ((0 : Int), (0 : Int), ([] : List Dt))).any (bad own 1)) = !(bs.take k).all goodB := by
    rw [List.replicate_zero, List.append_nil, List.any_map, List.all_eq_not_any_not]
    simp [Function.comp_def, bad_row hr hn]
  rw [e]
  cases (bs.take k).all goodB <;> simp [hrow, Function.comp_def]
end Go.Proofs.Ytahmlcjgcdajbaa
