/- Plain laws of matches: an order that carries matches; what the wild ones match; a name's own levels. -/
import Derived.Test.YtpdacegpjofdeaaDoorTn
set_option linter.all false
namespace Go.Proofs.YtpdacegpjofdeaaDoor
open Go.RowKit Go.Hub Go.Lib
def plus : ByteArray := ⟨#[43]⟩
def hash : ByteArray := ⟨#[35]⟩
def dollar : ByteArray := ⟨#[36]⟩
def veil (t f : ByteArray) : Bool := prefB (hd0 (levelsL t)) dollar && (decide (hd0 (levelsL f) = plus) || decide (hd0 (levelsL f) = hash))
theorem match_def (f t : ByteArray) : matchB f t = (filterB f && nameB t && !veil t f && goesB (levelsL f) (levelsL t)) := rfl
theorem within_def (t f : ByteArray) : withinFB t f = (filterB t && filterB f && !veil t f && withinB (levelsL t) (levelsL f)) := rfl
theorem withinB_self (l : List ByteArray) : withinB l l = true := by
  induction l with
  | nil => rfl
  | cons x l ih =>
    rw [withinB, ih]
    by_cases h : x = ⟨#[35]⟩ <;> simp [h]
theorem veil_self (x : ByteArray) : veil x x = false := by
  unfold veil
  by_cases h1 : hd0 (levelsL x) = plus
  · rw [h1]; kernel_rfl
  · by_cases h2 : hd0 (levelsL x) = hash
    · rw [h2]; kernel_rfl
    · simp [h1, h2]
theorem within_self (x : ByteArray) : withinFB x x = filterB x := by
  rw [within_def, veil_self, withinB_self]
  simp
theorem goes_within : ∀ (f g n : List ByteArray), withinB f g = true → goesB f n = true → goesB g n = true
  | f, [], n, h1, h2 => by
    rw [within_nil rfl] at h1
    have : f.length = 0 := by have := of_decide_eq_true h1; omega
    rw [nil_of this] at h2
    exact h2
  | [], y :: g, n, h1, h2 => by
    rw [withinB] at h1
    by_cases hy : y = ⟨#[35]⟩
    · cases n <;> simp [goesB, hy]
    · simp [hy] at h1
  | x :: f, y :: g, n, h1, h2 => by
    rw [withinB] at h1
    by_cases hy : y = ⟨#[35]⟩
    · cases n <;> simp [goesB, hy]
    · simp only [hy, decide_false, Bool.false_or, Bool.and_eq_true, Bool.not_eq_true', decide_eq_false_iff_not] at h1
      obtain ⟨hx, h1, h3⟩ := h1
      cases n with
      | nil => simp [goesB, hx] at h2
      | cons z n =>
        rw [goesB] at h2
        simp only [hx, decide_false, Bool.false_or, Bool.and_eq_true] at h2
        have ih := goes_within f g n h3 h2.2
        rw [goesB, ih]
        simp only [hy, decide_false, Bool.false_or, Bool.and_true]
        rcases Bool.or_eq_true _ _ ▸ h1 with h1 | h1
        · simp [h1]
        · have e : x = y := of_decide_eq_true h1
          subst e
          exact h2.1
theorem hd_cons (s : ByteArray) : ∃ r, levelsL s = hd0 (levelsL s) :: r := by
  cases e : levelsL s with
  | nil => exact absurd e (levels_ne s)
  | cons x r => exact ⟨r, rfl⟩
theorem within_match {f g n : ByteArray} (h1 : withinFB f g = true) (h2 : matchB f n = true) : matchB g n = true := by
  rw [within_def] at h1
  rw [match_def] at h2 ⊢
  simp only [Bool.and_eq_true, Bool.not_eq_true'] at h1 h2 ⊢
  obtain ⟨⟨⟨f1, f2⟩, v1⟩, w1⟩ := h1
  obtain ⟨⟨⟨f3, n1⟩, v2⟩, g1⟩ := h2
  refine ⟨⟨⟨f2, n1⟩, ?_⟩, goes_within _ _ _ w1 g1⟩
  unfold veil at v1 v2 ⊢
  obtain ⟨r1, e1⟩ := hd_cons f
  obtain ⟨r2, e2⟩ := hd_cons n
  rw [e1, e2, goesB] at g1
  cases hp : prefB (hd0 (levelsL n)) dollar
  · rfl
  · rw [hp] at v2
    simp only [Bool.true_and, Bool.or_eq_false_iff, decide_eq_false_iff_not] at v2 ⊢
    have hh : ¬ hd0 (levelsL f) = (⟨#[35]⟩ : ByteArray) := v2.2
    have hq : ¬ hd0 (levelsL f) = (⟨#[43]⟩ : ByteArray) := v2.1
    simp only [hh, hq, decide_false, Bool.false_or, Bool.and_eq_true, decide_eq_true_eq] at g1
    rw [g1.1, hp] at v1
    simpa using v1

def plainB (x : ByteArray) : Bool := nameB x && !prefB (hd0 (levelsL x)) dollar
theorem plain_at {x : ByteArray} {b : UInt8} (h : nameB x = true) (hb : x[0]? = some b) : plainB x = !decide (((b.toNat : Nat) : Int) = 36) := by
  unfold plainB dollar
  rw [h, veil36 hb, Bool.true_and]
theorem match_no {f x : ByteArray} (h : nameB x = false) : matchB f x = false := by rw [match_def, h]; simp
theorem goes_h (n : List ByteArray) (r : List ByteArray) : goesB (hash :: r) n = true := by cases n <;> simp [goesB, hash]
theorem f_hash : filterB hash = true := by kernel_rfl
theorem f_plus : filterB plus = true := by kernel_rfl
def plushash : ByteArray := ⟨#[43, 47, 35]⟩
theorem f_ph : filterB plushash = true := by kernel_rfl
theorem l_hash : levelsL hash = [hash] := by kernel_rfl
theorem l_plus : levelsL plus = [plus] := by kernel_rfl
theorem l_ph : levelsL plushash = [plus, hash] := by kernel_rfl
theorem veil_wild {x f : ByteArray} (h : hd0 (levelsL f) = plus ∨ hd0 (levelsL f) = hash) : veil x f = prefB (hd0 (levelsL x)) dollar := by
  unfold veil
  rcases h with h | h <;> rw [h] <;> simp [plus, hash]
theorem all_hash (x : ByteArray) : matchB ⟨#[35]⟩ x = plainB x := by
  show matchB hash x = _
  rw [match_def, f_hash, veil_wild (.inr (by rw [l_hash]; rfl)), l_hash, goes_h]
  unfold plainB
  simp
theorem all_plus (x : ByteArray) : matchB ⟨#[43]⟩ x = (plainB x && decide ((((levelsL x).length : Nat) : Int) = 1)) := by
  show matchB plus x = _
  rw [match_def, f_plus, veil_wild (.inl (by rw [l_plus]; rfl)), l_plus]
  obtain ⟨r, e⟩ := hd_cons x
  have : goesB [plus] (levelsL x) = decide ((((levelsL x).length : Nat) : Int) = 1) := by
    have hp : ¬ plus = (⟨#[35]⟩ : ByteArray) := fun h => absurd (congrArg (fun s : ByteArray => s.data.toList) h) (by decide)
    have hq : plus = (⟨#[43]⟩ : ByteArray) := rfl
    rw [e, goesB, goesB, decide_eq_false hp, decide_eq_true hq, List.length_cons]
    simp only [Bool.false_or, Bool.true_or, Bool.true_and]
    exact decide_eq_decide.2 (by omega)
  rw [this]
  unfold plainB
  simp
theorem all_ph (x : ByteArray) : matchB ⟨#[43, 47, 35]⟩ x = plainB x := by
  show matchB plushash x = _
  rw [match_def, f_ph, veil_wild (.inl (by rw [l_ph]; rfl)), l_ph]
  obtain ⟨r, e⟩ := hd_cons x
  have : goesB [plus, hash] (levelsL x) = true := by
    rw [e, goesB, goes_h]
    simp [plus]
  rw [this]
  unfold plainB
  simp
theorem any_jn (p : UInt8 → Bool) (h : p 47 = false) : ∀ L : List (List UInt8), (jn L).any p = L.any (·.any p)
  | [] => rfl
  | x :: r => by
    rw [jn, List.any_append, List.any_cons]
    congr 1
    induction r with
    | nil => rfl
    | cons y r ih => rw [List.flatMap_cons, List.any_append, ih, List.any_cons, h]; rfl
theorem any_levels (s : ByteArray) : anyW s = (levelsL s).any anyW := by
  rw [anyW_list, ← jn_sp s.data.toList, any_jn _ (by decide), ← lv, List.any_map]
  congr 1
  funext x
  exact (anyW_list x).symm
theorem name_levels {s : ByteArray} (h : nameB s = true) : ∀ x ∈ levelsL s, anyW x = false := by
  unfold nameB at h
  simp only [Bool.and_eq_true, Bool.not_eq_true'] at h
  rw [any_levels, List.any_eq_false] at h
  intro x hx
  simpa using h.2 x hx
theorem ok_all : ∀ l : List ByteArray, (∀ x ∈ l, x = plus ∨ anyW x = false) → okAll l = true
  | [], _ => rfl
  | x :: r, h => by
    rw [okAll, ok_all r (fun y hy => h y (by simp [hy])), Bool.and_true]
    unfold okL
    rcases h x (by simp) with h | h
    · rw [h]; simp [plus]
    · rw [h]; simp
theorem ok_hash : ∀ l : List ByteArray, (∀ x ∈ l, anyW x = false) → okAll (l ++ [hash]) = true
  | [], _ => by kernel_rfl
  | x :: r, h => by
    rw [List.cons_append, okAll, ok_hash r (fun y hy => h y (by simp [hy])), Bool.and_true]
    unfold okL
    rw [h x (by simp)]
    simp
theorem name_filter {s : ByteArray} (h : nameB s = true) : filterB s = true := by
  unfold filterB
  rw [name_text h, ok_all _ (fun x hx => .inr (name_levels h x hx))]
  rfl
theorem no_hash {x : ByteArray} (h : anyW x = false) : ¬ x = (⟨#[35]⟩ : ByteArray) := fun e => by rw [e, any35] at h; cases h
theorem goes_self (l : List ByteArray) : goesB l l = true := by
  induction l with
  | nil => rfl
  | cons x l ih => rw [goesB, ih]; simp
theorem own_self {s : ByteArray} (h : nameB s = true) : matchB s s = true := by
  rw [match_def, name_filter h, h, veil_self, goes_self]
  rfl
/-! ### a name's levels, changed -/
theorem okU_jn : ∀ (r : List (List UInt8)) (x : List UInt8), Go.Hub.okL (jn (x :: r)) = (x :: r).all Go.Hub.okL
  | [], x => by simp [jn]
  | y :: r, x => by
    have e : jn (x :: y :: r) = x ++ 47 :: jn (y :: r) := by simp [jn]
    rw [e, ok_join, okU_jn r y]
    rfl
theorem text_is (s : ByteArray) : textB s = (decide (0 < s.size) && (decide (s.size ≤ 65535) && Go.Hub.okL s.data.toList)) := by
  unfold textB
  rw [chk_is, ByteArray.toList_eq]
theorem text_levels {s : ByteArray} (h : textB s = true) : ∀ x ∈ levelsL s, Go.Hub.okL x.data.toList = true := by
  rw [text_is] at h
  simp only [Bool.and_eq_true] at h
  have h := h.2.2
  rw [← jn_sp s.data.toList] at h
  obtain ⟨p, t, e⟩ := sp_ne s.data.toList
  rw [e, okU_jn, ← e, ← lv, List.all_map, List.all_eq_true] at h
  exact h
theorem text_join {l : List ByteArray} (hne : l ≠ []) (h : ∀ x ∈ l, Go.Hub.okL x.data.toList = true) (h0 : 0 < (joinB l).size) (h1 : (joinB l).size ≤ 65535) : textB (joinB l) = true := by
  rw [text_is, decide_eq_true h0, decide_eq_true h1, joinB_data]
  cases l with
  | nil => exact absurd rfl hne
  | cons x r =>
    rw [List.map_cons, okU_jn, ← List.map_cons (f := fun s : ByteArray => s.data.toList), List.all_map]
    simp only [Bool.true_and, List.all_eq_true]
    exact h
theorem goes_take : ∀ (i : Nat) (l : List ByteArray), i ≤ l.length → goesB (l.take i ++ [hash]) l = true
  | 0, l, _ => by rw [List.take_zero, List.nil_append]; exact goes_h l []
  | i + 1, [], h => by simp at h
  | i + 1, x :: l, h => by
    rw [List.take_succ_cons, List.cons_append, goesB, goes_take i l (by simpa using h)]
    simp
theorem goes_set : ∀ (i : Nat) (l : List ByteArray), goesB (l.set i plus) l = true
  | _, [] => rfl
  | 0, x :: l => by rw [List.set_cons_zero, goesB, goes_self]; simp [plus]
  | i + 1, x :: l => by rw [List.set_cons_succ, goesB, goes_set i l]; simp
theorem goes_more (a : ByteArray) (ha : ¬ a = (⟨#[35]⟩ : ByteArray)) : ∀ l : List ByteArray, (∀ x ∈ l, anyW x = false) → goesB (l ++ [a]) l = false
  | [], _ => by rw [List.nil_append, goesB]; simp [ha]
  | x :: l, h => by
    rw [List.cons_append, goesB, goes_more a ha l (fun y hy => h y (by simp [hy]))]
    have := no_hash (h x (by simp))
    simp [this]
theorem hd_not {s : ByteArray} (h : nameB s = true) : ¬ hd0 (levelsL s) = plus ∧ ¬ hd0 (levelsL s) = hash := by
  obtain ⟨r, e⟩ := hd_cons s
  have := name_levels h (hd0 (levelsL s)) (by rw [e]; exact List.mem_cons_self)
  refine ⟨fun e => ?_, fun e => ?_⟩
  · rw [e, show anyW plus = true by kernel_rfl] at this; cases this
  · rw [e, show anyW hash = true by kernel_rfl] at this; cases this
end Go.Proofs.YtpdacegpjofdeaaDoor
