/- Dots: plain laws on lists of them. -/
import Derived.Test.YtahmlcjgcdajbaaDot
set_option linter.all false
namespace Go.Hub

def lt2 (a b : Dt) : Prop := a.node < b.node ∨ (a.node = b.node ∧ a.epoch < b.epoch)
instance (a b : Dt) : Decidable (lt2 a b) := by unfold lt2; exact inferInstance
theorem lives_lt (a b : Dt) : livesI a b < 0 ↔ lt2 a b := by
  unfold livesI cmpI lt2
  repeat' split
  all_goals omega
theorem lives_ge (a b : Dt) : 0 ≤ livesI a b ↔ ¬ lt2 a b := by
  rw [← lives_lt]; omega
theorem lives_eq (a b : Dt) : livesI a b = 0 ↔ a.node = b.node ∧ a.epoch = b.epoch := by
  unfold livesI cmpI
  repeat' split
  all_goals omega
theorem lt2_trans {a b c : Dt} (h : lt2 a b) (k : lt2 b c) : lt2 a c := by unfold lt2 at *; omega
/-- strictly rising, each one may be -/
def Rises (l : List Dt) : Prop := (∀ (i j : Nat) (a b : Dt), i < j → l[i]? = some a → l[j]? = some b → lt2 a b) ∧ ∀ a ∈ l, mayB a = true
theorem rises_from : ∀ (l : List Dt) (p : Option Dt), rightFrom p l = true → Rises l ∧ ∀ q, p = some q → ∀ a ∈ l, lt2 q a := by
  intro l
  induction l with
  | nil => intro p _; exact ⟨⟨fun i j a b _ h => by simp at h, fun a h => by simp at h⟩, fun q _ a h => by simp at h⟩
  | cons d r ih =>
    intro p h
    simp only [rightFrom, Bool.and_eq_true] at h
    obtain ⟨⟨h1, h2⟩, h3⟩ := h
    obtain ⟨⟨i1, i2⟩, i3⟩ := ih _ h3
    have hd := i3 d rfl
    refine ⟨⟨fun i j a b hij ha hb => ?_, fun a ha => ?_⟩, fun q hq a ha => ?_⟩
    · match i, j, hij with
      | 0, j + 1, _ =>
        simp at ha hb
        subst ha
        exact hd b (List.mem_of_getElem? hb)
      | i + 1, j + 1, hij => exact i1 i j a b (by omega) (by simpa using ha) (by simpa using hb)
    · rcases List.mem_cons.1 ha with rfl | ha
      · exact h1
      · exact i2 a ha
    · subst hq
      have hq : lt2 q d := by
        simp only [nextOk, decide_eq_true_eq] at h2
        exact (lives_lt _ _).1 h2
      rcases List.mem_cons.1 ha with rfl | ha
      · exact hq
      · exact lt2_trans hq (hd a ha)
theorem rises {l : List Dt} (h : rightB l = true) : Rises l := (rises_from l none h).1
theorem lt2_irrefl (a : Dt) : ¬ lt2 a a := by unfold lt2; omega
theorem topI_some {l : List Dt} (h : rightB l = true) {i : Nat} {x : Dt} (hx : l[i]? = some x) : topI l x.node x.epoch = x.n := by
  have hr := rises h
  unfold topI
  have hf : l.find? (fun y => decide (y.node = x.node) && decide (y.epoch = x.epoch)) = some x := by
    rw [List.find?_eq_some_iff_getElem]
    refine ⟨by simp, i, (List.getElem?_eq_some_iff.1 hx).1, (List.getElem?_eq_some_iff.1 hx).2, fun j hj => ?_⟩
    have hjl : j < l.length := by have := (List.getElem?_eq_some_iff.1 hx).1; omega
    have := hr.1 j i l[j] x hj (List.getElem?_eq_getElem hjl) hx
    unfold lt2 at this
    simp
    omega
  rw [hf]
theorem topI_none {l : List Dt} {node epoch : Int} (h : ∀ x ∈ l, ¬ (x.node = node ∧ x.epoch = epoch)) : topI l node epoch = 0 := by
  unfold topI
  have hf : l.find? (fun y => decide (y.node = node) && decide (y.epoch = epoch)) = none := by
    rw [List.find?_eq_none]
    intro x hx
    have := h x hx
    simpa using this
  rw [hf]
/-- what the search finds -/
structure Srch (l : List Dt) (d : Dt) (i : Nat) (b : Bool) : Prop where
  le : i ≤ l.length
  lo : ∀ (j : Nat) a, j < i → l[j]? = some a → lt2 a d
  hi : ∀ (j : Nat) a, i ≤ j → l[j]? = some a → ¬ lt2 a d
  is : b = true ↔ ∃ a, l[i]? = some a ∧ a.node = d.node ∧ a.epoch = d.epoch
theorem Srch.top {l : List Dt} {d : Dt} {i : Nat} (hr : Rises l) (h : Srch l d i false) : topI l d.node d.epoch = 0 := by
  refine topI_none fun x hx hh => ?_
  obtain ⟨j, hj, he⟩ := List.getElem_of_mem hx
  have hj' : l[j]? = some x := by rw [List.getElem?_eq_getElem hj, he]
  have hle : i ≤ j := by
    rcases Nat.lt_or_ge j i with h1 | h1
    · have := h.lo j x h1 hj'
      unfold lt2 at this
      omega
    · exact h1
  rcases Nat.lt_or_ge i j with h2 | h2
  · have hi' : i < l.length := by omega
    have h3 := h.hi i l[i] (Nat.le_refl _) (List.getElem?_eq_getElem hi')
    have h4 := hr.1 i j l[i] x h2 (List.getElem?_eq_getElem hi') hj'
    exfalso
    unfold lt2 at h3 h4
    omega
  · obtain rfl : i = j := by omega
    have := h.is.2 ⟨x, hj', hh⟩
    cases this
theorem Srch.is_top {l : List Dt} {d : Dt} {i : Nat} (hr : rightB l = true) (h : Srch l d i true) : ∃ a, l[i]? = some a ∧ a.n = topI l d.node d.epoch := by
  obtain ⟨a, h1, h2, h3⟩ := h.is.1 rfl
  exact ⟨a, h1, by rw [← h2, ← h3, topI_some hr h1]⟩
/-- the search's loop -/
structure Half (l : List Dt) (d : Dt) (i j : Nat) : Prop where
  ij : i ≤ j
  jn : j ≤ l.length
  lo : ∀ (k : Nat) a, k < i → l[k]? = some a → lt2 a d
  hi : ∀ (k : Nat) a, j ≤ k → l[k]? = some a → ¬ lt2 a d
theorem Half.start (l : List Dt) (d : Dt) : Half l d 0 l.length := ⟨Nat.zero_le _, Nat.le_refl _, fun k a h => by omega, fun k a h hk => by have := (List.getElem?_eq_some_iff.1 hk).1; omega⟩
theorem Half.right {l : List Dt} {d a : Dt} {i j h : Nat} (H : Half l d i j) (hr : Rises l) (h1 : i ≤ h) (h2 : h < j) (ha : l[h]? = some a) (hl : lt2 a d) : Half l d (h + 1) j :=
  ⟨by omega, H.jn, fun k b hk hb => by
    rcases Nat.lt_or_ge k h with h3 | h3
    · exact lt2_trans (hr.1 k h b a h3 hb ha) hl
    · obtain rfl : k = h := by omega
      rw [ha] at hb
      cases hb
      exact hl, H.hi⟩
theorem Half.left {l : List Dt} {d a : Dt} {i j h : Nat} (H : Half l d i j) (hr : Rises l) (h1 : i ≤ h) (h2 : h < j) (ha : l[h]? = some a) (hl : ¬ lt2 a d) : Half l d i h :=
  ⟨h1, by have := H.jn; omega, H.lo, fun k b hk hb hlt => by
    rcases Nat.lt_or_ge h k with h3 | h3
    · exact hl (lt2_trans (hr.1 h k a b h3 ha hb) hlt)
    · obtain rfl : k = h := by omega
      rw [ha] at hb
      cases hb
      exact hl hlt⟩
theorem Half.found {l : List Dt} {d : Dt} {i : Nat} {b : Bool} (H : Half l d i i) (hb : b = true ↔ ∃ a, l[i]? = some a ∧ a.node = d.node ∧ a.epoch = d.epoch) : Srch l d i b := ⟨H.jn, H.lo, H.hi, hb⟩
theorem Half.found1 {l : List Dt} {d m : Dt} {i : Nat} (H : Half l d i i) (hd : l[i]? = some m) : Srch l d i (decide (livesI m d = 0)) := H.found (by
  rw [decide_eq_true_iff, lives_eq]
  constructor
  · intro h; exact ⟨m, hd, h⟩
  · rintro ⟨a, ha, h⟩
    rw [hd] at ha
    cases ha
    exact h)
theorem Half.found0 {l : List Dt} {d : Dt} {i : Nat} (H : Half l d i i) (hd : l[i]? = none) : Srch l d i false := H.found (by simp [hd])
def pairB (x y : Int) : Bool := decide (0 ≤ x) && decide (x < 16) && decide (1 ≤ y)
theorem mayB_pair (d : Dt) : mayB d = (pairB d.node d.epoch && decide (1 ≤ d.n)) := rfl
theorem prev_some2 {l : List Dt} {k : Nat} {q : Dt} (d : Dt) (h : 0 < k) (hq : l[Int.toNat ((k : Int) - 1)]? = some q) : nextOk (prevD l k) d = decide (lt2 q d) := by
  rw [prev_some d h hq]
  exact decide_eq_decide.2 (lives_lt q d)
theorem topI_at {l : List Dt} (h : rightB l = true) {i : Nat} {d : Dt} {x y : Int} (hd : l[i]? = some d) (hx : d.node = x) (hy : d.epoch = y) : topI l x y = d.n := by
  subst hx hy
  exact topI_some h hd
theorem in_take {l : List Dt} {P : Dt → Prop} {k : Nat} {d : Dt} (h : ∀ x ∈ l.take k, P x) (hd : l[k]? = some d) (hp : P d) : ∀ x ∈ l.take (k + 1), P x := by
  intro x hx
  rw [List.take_succ, hd] at hx
  simp at hx
  rcases hx with hx | rfl
  · exact h x hx
  · exact hp
theorem all_take {l : List Dt} {P : Dt → Prop} {k : Nat} (h : ∀ x ∈ l.take k, P x) (hk : l.length ≤ k) : ∀ x ∈ l, P x := by
  rw [List.take_of_length_le hk] at h
  exact h
theorem eq_take {a b : List Dt} {k : Nat} {x y : Dt} (h : a.take k = b.take k) (ha : a[k]? = some x) (hb : b[k]? = some y) (e : x = y) : a.take (k + 1) = b.take (k + 1) := by
  rw [List.take_succ, List.take_succ, h, ha, hb, e]
theorem any_has {a b : List Dt} (ha : rightB a = true) (hb : rightB b = true) : (a.any fun x => decide (topI b x.node x.epoch < x.n)) = !(a.all fun x => decide (1 ≤ x.n) && decide (x.n ≤ (if rightB b then topI b x.node x.epoch else 0))) := by
  have hm := (rises ha).2
  rw [Bool.eq_iff_iff]
  simp only [List.any_eq_true, decide_eq_true_eq, Bool.not_eq_true', List.all_eq_false, Bool.and_eq_true, hb, if_true]
  constructor
  · rintro ⟨x, h1, h2⟩
    exact ⟨x, h1, fun h => by omega⟩
  · rintro ⟨x, h1, h2⟩
    refine ⟨x, h1, ?_⟩
    have := hm x h1
    simp [mayB] at this
    rcases Int.lt_or_le (topI b x.node x.epoch) x.n with h3 | h3
    · exact h3
    · exact absurd ⟨this.2, h3⟩ h2
def topR (l : List Dt) (x y : Int) : Int := if rightB l then topI l x y else 0
def hasB (l : List Dt) (d : Dt) : Bool := decide (1 ≤ d.n) && decide (d.n ≤ topR l d.node d.epoch)
def withinB (a b : List Dt) : Bool := rightB a && rightB b && !(a.any fun x => decide (topI b x.node x.epoch < x.n))
/-! ### a dot put where it belongs -/
def insD : List Dt → Dt → List Dt
  | [], d => [d]
  | x :: r, d => if lt2 x d then x :: insD r d else if lt2 d x then d :: x :: r else { x with n := d.n } :: r
def addD (l : List Dt) (d : Dt) : List Dt := if rightB l = false then [] else if mayB d = false ∨ hasB l d = true then l else insD l d
theorem insD_at : ∀ (l : List Dt) (d : Dt) (k : Nat), (∀ x ∈ l.take k, lt2 x d) → (∀ x, l[k]? = some x → ¬ lt2 x d) → k ≤ l.length →
    insD l d = (match l[k]? with | some x => if lt2 d x then l.take k ++ d :: l.drop k else l.set k { x with n := d.n } | none => l ++ [d]) := by
  intro l
  induction l with
  | nil => intro d k _ _ hk; simp at hk; subst hk; simp [insD]
  | cons x r ih =>
    intro d k h1 h2 hk
    match k with
    | 0 =>
      have := h2 x (by simp)
      simp only [insD, if_neg this]
      simp
    | k + 1 =>
      have hx : lt2 x d := h1 x (by simp)
      have := ih d k (fun y hy => h1 y (by simp [hy])) (fun y hy => h2 y (by simpa using hy)) (by simpa using hk)
      simp only [insD, if_pos hx, this]
      simp only [List.getElem?_cons_succ]
      split
      · split <;> simp
      · simp
theorem dcells_append (a b : List Dt) : dcells (a ++ b) = dcells a ++ dcells b := by simp [dcells]
theorem dcells_take (l : List Dt) (k : Nat) : (dcells l).take (k * 3) = dcells (l.take k) := by
  induction l generalizing k with
  | nil => simp [dcells]
  | cons x r ih =>
    match k with
    | 0 => simp [dcells]
    | k + 1 =>
      have := ih k
      simp only [dcells, List.flatMap_cons, List.take_succ_cons] at this ⊢
      rw [show (k + 1) * 3 = k * 3 + 1 + 1 + 1 by omega, ← this]
      rfl
theorem dcells_drop (l : List Dt) (k : Nat) : (dcells l).drop (k * 3) = dcells (l.drop k) := by
  induction l generalizing k with
  | nil => simp [dcells]
  | cons x r ih =>
    match k with
    | 0 => simp [dcells]
    | k + 1 =>
      have := ih k
      simp only [dcells, List.flatMap_cons, List.drop_succ_cons] at this ⊢
      rw [show (k + 1) * 3 = k * 3 + 1 + 1 + 1 by omega, ← this]
      rfl
theorem dcells_set : ∀ (l : List Dt) (k : Nat) (x : Dt) (m : Int), l[k]? = some x → (dcells l).set (k * 3 + 2) (.int .i64 m) = dcells (l.set k { x with n := m })
  | [], _, _, _, h => by simp at h
  | y :: r, 0, x, m, h => by
    simp at h
    subst h
    rfl
  | y :: r, k + 1, x, m, h => by
    have := dcells_set r k x m (by simpa using h)
    simp only [dcells, List.flatMap_cons, List.set_cons_succ] at this ⊢
    rw [← this, show (k + 1) * 3 + 2 = (k * 3 + 2) + 3 by omega]
    rfl
end Go.Hub
