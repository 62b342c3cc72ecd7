/- Dots: a list that may be, told by its tops; joins. -/
import Derived.Test.YtahmlcjgcdajbaaDot2
set_option linter.all false
namespace Go.Hub

theorem dNext {p : Option Dt} {d : Dt} : nextOk p d = true ↔ ∀ q, p = some q → lt2 q d := by
  cases p with
  | none => simp [nextOk]
  | some q => simp only [nextOk, decide_eq_true_eq, lives_lt]; simp
theorem dInsRight : ∀ (l : List Dt) (p : Option Dt) (d : Dt), rightFrom p l = true → mayB d = true → (∀ q, p = some q → lt2 q d) → rightFrom p (insD l d) = true
  | [], p, d, _, hd, hp => by simp [insD, rightFrom, hd, dNext.2 hp]
  | x :: r, p, d, h, hd, hp => by
    simp only [rightFrom, Bool.and_eq_true] at h
    obtain ⟨⟨h1, h2⟩, h3⟩ := h
    unfold insD
    split
    · rename_i hx
      simp only [rightFrom, h1, h2, Bool.true_and]
      exact dInsRight r (some x) d h3 hd (fun q hq => by injection hq with hq; subst hq; exact hx)
    · split
      · rename_i hx
        simp only [rightFrom, hd, h1, h3, dNext.2 hp, Bool.true_and, Bool.and_true]
        exact dNext.2 fun q hq => by injection hq with hq; subst hq; exact hx
      · have e1 : mayB { x with n := d.n } = true := by
          simp only [mayB, Bool.and_eq_true, decide_eq_true_eq] at h1 hd ⊢
          omega
        have e2 : nextOk p { x with n := d.n } = true := dNext.2 fun q hq => dNext.1 h2 q hq
        simp only [rightFrom, e1, e2, Bool.true_and]
        cases r with
        | nil => rfl
        | cons y r =>
          simp only [rightFrom, Bool.and_eq_true] at h3 ⊢
          exact ⟨⟨h3.1.1, dNext.2 fun q hq => by injection hq with hq; subst hq; exact dNext.1 h3.1.2 x rfl⟩, h3.2⟩
theorem dAddRight {l : List Dt} (h : rightB l = true) (d : Dt) : rightB (addD l d) = true := by
  unfold addD
  rw [if_neg (by simp [h])]
  split
  · exact h
  · rename_i hn
    exact dInsRight l none d h (by cases hm : mayB d <;> simp_all) (fun q hq => by cases hq)
/-! ### tops -/
def key (d : Dt) (x y : Int) : Bool := decide (d.node = x) && decide (d.epoch = y)
theorem topI_cons (d : Dt) (r : List Dt) (x y : Int) : topI (d :: r) x y = if key d x y = true then d.n else topI r x y := by
  unfold topI key
  rw [List.find?_cons]
  cases h : (decide (d.node = x) && decide (d.epoch = y)) <;> simp
theorem key_iff {d : Dt} {x y : Int} : key d x y = true ↔ d.node = x ∧ d.epoch = y := by simp [key]
theorem topI_ins : ∀ (l : List Dt) (d : Dt) (x y : Int), topI (insD l d) x y = if key d x y = true then d.n else topI l x y
  | [], d, x, y => by rw [insD, topI_cons]
  | a :: r, d, x, y => by
    unfold insD
    split
    · rename_i h
      rw [topI_cons, topI_cons, topI_ins r d x y]
      by_cases h1 : key a x y = true
      · rw [if_pos h1, if_pos h1]
        rw [if_neg]
        intro h2
        rw [key_iff] at h1 h2
        unfold lt2 at h
        omega
      · rw [if_neg h1, if_neg h1]
    · split
      · rw [topI_cons]
      · rename_i h1 h2
        have he : key { a with n := d.n } x y = key d x y := by
          have : a.node = d.node ∧ a.epoch = d.epoch := by unfold lt2 at h1 h2; omega
          unfold key
          simp [this.1, this.2]
        rw [topI_cons, topI_cons, he]
        by_cases h3 : key d x y = true
        · rw [if_pos h3, if_pos h3]
        · rw [if_neg h3, if_neg h3, if_neg]
          intro h4
          apply h3
          rw [← he]
          exact h4
theorem may_of {d : Dt} (h : mayB d = true) : 0 ≤ d.node ∧ d.node < 16 ∧ 1 ≤ d.epoch ∧ 1 ≤ d.n := by
  simp only [mayB, Bool.and_eq_true, decide_eq_true_eq] at h
  omega
theorem topI_pos {l : List Dt} (h : rightB l = true) (x y : Int) : 0 ≤ topI l x y := by
  have hr := rises h
  rcases hf : l.find? (fun z => decide (z.node = x) && decide (z.epoch = y)) with _ | z
  · unfold topI; rw [hf]; exact Int.le_refl _
  · unfold topI; rw [hf]
    have := may_of (hr.2 z (List.mem_of_find?_eq_some hf))
    show 0 ≤ z.n
    omega
theorem topI_add {l : List Dt} (h : rightB l = true) {d : Dt} (hd : mayB d = true) (x y : Int) : topI (addD l d) x y = if key d x y = true then Max.max (topI l x y) d.n else topI l x y := by
  have hn := may_of hd
  unfold addD
  rw [if_neg (by simp [h])]
  by_cases hh : hasB l d = true
  · rw [if_pos (.inr hh)]
    simp only [hasB, Bool.and_eq_true, decide_eq_true_eq, topR, h, if_true] at hh
    by_cases hk : key d x y = true
    · rw [if_pos hk]
      rw [key_iff] at hk
      rw [hk.1, hk.2] at hh
      omega
    · rw [if_neg hk]
  · rw [if_neg (fun h1 => h1.elim (fun h1 => by rw [hd] at h1; cases h1) hh), topI_ins]
    by_cases hk : key d x y = true
    · rw [if_pos hk, if_pos hk]
      rw [key_iff] at hk
      have : ¬ d.n ≤ topI l x y := fun hc => hh (by
        simp only [hasB, Bool.and_eq_true, decide_eq_true_eq, topR, h, if_true, hk.1, hk.2]
        exact ⟨hn.2.2.2, hc⟩)
      omega
    · rw [if_neg hk, if_neg hk]
theorem topI_out {l : List Dt} {x y : Int} (h : ∀ d ∈ l, key d x y = false) : topI l x y = 0 := topI_none fun d hd he => by
  have := h d hd
  rw [← Bool.not_eq_true, key_iff] at this
  exact this he
/-- what lists that may be come to together -/
theorem topI_fold : ∀ (b : List Dt) (p : Option Dt) (a : List Dt), rightB a = true → rightFrom p b = true → rightB (b.foldl addD a) = true ∧ ∀ x y, topI (b.foldl addD a) x y = Max.max (topI a x y) (topI b x y)
  | [], _, a, ha, _ => ⟨ha, fun x y => by
    have := topI_pos ha x y
    have h0 : topI [] x y = 0 := rfl
    rw [h0]
    show topI a x y = _
    omega⟩
  | d :: r, p, a, ha, hb => by
    have hb0 := hb
    simp only [rightFrom, Bool.and_eq_true] at hb
    obtain ⟨⟨h1, h2⟩, h3⟩ := hb
    obtain ⟨i1, i2⟩ := topI_fold r (some d) (addD a d) (dAddRight ha d) h3
    refine ⟨i1, fun x y => ?_⟩
    show topI (r.foldl addD (addD a d)) x y = _
    rw [i2 x y, topI_add ha h1, topI_cons]
    by_cases hk : key d x y = true
    · have h0 : topI r x y = 0 := topI_out fun z hz => by
        have := (rises_from r (some d) h3).2 d rfl z hz
        rw [key_iff] at hk
        rw [← Bool.not_eq_true, key_iff]
        unfold lt2 at this
        omega
      have := topI_pos ha x y
      have := may_of h1
      rw [if_pos hk, if_pos hk, h0]
      omega
    · rw [if_neg hk, if_neg hk]
/-- its tops tell a list that may be -/
theorem top_mem {l : List Dt} (h : rightB l = true) (d : Dt) : d ∈ l ↔ mayB d = true ∧ topI l d.node d.epoch = d.n := by
  constructor
  · intro hd
    obtain ⟨i, hi⟩ := List.getElem?_of_mem hd
    exact ⟨(rises h).2 d hd, topI_some h hi⟩
  · rintro ⟨h1, h2⟩
    have hn := may_of h1
    unfold topI at h2
    split at h2
    · rename_i z hz
      have hm := List.mem_of_find?_eq_some hz
      have hp := List.find?_some hz
      simp only [Bool.and_eq_true, decide_eq_true_eq] at hp
      have : z = d := by
        cases z
        cases d
        simp_all
      exact this ▸ hm
    · omega
theorem lt2_asymm {a b : Dt} (h : lt2 a b) : ¬ lt2 b a := by unfold lt2 at *; omega
theorem same_mem : ∀ (l m : List Dt) (p q : Option Dt), rightFrom p l = true → rightFrom q m = true → (∀ d, d ∈ l ↔ d ∈ m) → l = m
  | [], [], _, _, _, _, _ => rfl
  | [], b :: m, _, _, _, _, h => by have := (h b).2 (by simp); simp at this
  | a :: l, [], _, _, _, _, h => by have := (h a).1 (by simp); simp at this
  | a :: l, b :: m, p, q, h1, h2, h => by
    simp only [rightFrom, Bool.and_eq_true] at h1 h2
    have ha := (rises_from l (some a) h1.2).2 a rfl
    have hb := (rises_from m (some b) h2.2).2 b rfl
    have hab : a = b := by
      rcases List.mem_cons.1 ((h a).1 (by simp)) with e | e
      · exact e
      · rcases List.mem_cons.1 ((h b).2 (by simp)) with e' | e'
        · exact e'.symm
        · exact absurd (ha b e') (lt2_asymm (hb a e))
    subst hab
    have := same_mem l m (some a) (some a) h1.2 h2.2 (fun d => by
      constructor
      · intro hd
        rcases List.mem_cons.1 ((h d).1 (List.mem_cons_of_mem _ hd)) with e | e
        · subst e; exact absurd (ha d hd) (lt2_irrefl d)
        · exact e
      · intro hd
        rcases List.mem_cons.1 ((h d).2 (List.mem_cons_of_mem _ hd)) with e | e
        · subst e; exact absurd (hb d hd) (lt2_irrefl d)
        · exact e)
    rw [this]
theorem top_ext {l m : List Dt} (hl : rightB l = true) (hm : rightB m = true) (h : ∀ x y, topI l x y = topI m x y) : l = m :=
  same_mem l m none none hl hm fun d => by rw [top_mem hl, top_mem hm, h]
def joinD (a b : List Dt) : List Dt := if rightB a = true ∧ rightB b = true then b.foldl addD a else []
theorem join_right {a b : List Dt} (ha : rightB a = true) (hb : rightB b = true) : rightB (joinD a b) = true := by
  rw [joinD, if_pos ⟨ha, hb⟩]
  exact (topI_fold b none a ha hb).1
theorem join_top {a b : List Dt} (ha : rightB a = true) (hb : rightB b = true) (x y : Int) : topI (joinD a b) x y = Max.max (topI a x y) (topI b x y) := by
  rw [joinD, if_pos ⟨ha, hb⟩]
  exact (topI_fold b none a ha hb).2 x y
theorem within_iff {a b : List Dt} (ha : rightB a = true) (hb : rightB b = true) : withinB a b = true ↔ ∀ x y, topI a x y ≤ topI b x y := by
  unfold withinB
  rw [ha, hb, Bool.true_and, Bool.true_and, Bool.not_eq_true', List.any_eq_false]
  constructor
  · intro h x y
    rcases hf : a.find? (fun z => decide (z.node = x) && decide (z.epoch = y)) with _ | z
    · have h0 : topI a x y = 0 := by unfold topI; rw [hf]
      rw [h0]
      exact topI_pos hb x y
    · have h1 : topI a x y = z.n := by unfold topI; rw [hf]
      have h2 := h z (List.mem_of_find?_eq_some hf)
      have hp := List.find?_some hf
      simp only [Bool.and_eq_true, decide_eq_true_eq] at hp
      rw [hp.1, hp.2] at h2
      simp at h2
      omega
  · intro h z hz
    have h1 := (top_mem ha z).1 hz
    have h2 := h z.node z.epoch
    simp
    omega
theorem join_comm {a b : List Dt} (ha : rightB a = true) (hb : rightB b = true) : joinD a b = joinD b a := top_ext (join_right ha hb) (join_right hb ha) fun x y => by
  rw [join_top ha hb, join_top hb ha]; omega
theorem join_twice {a b : List Dt} (ha : rightB a = true) (hb : rightB b = true) : joinD (joinD a b) b = joinD a b := top_ext (join_right (join_right ha hb) hb) (join_right ha hb) fun x y => by
  rw [join_top (join_right ha hb) hb, join_top ha hb]; omega
theorem join_assoc {a b c : List Dt} (ha : rightB a = true) (hb : rightB b = true) (hc : rightB c = true) : joinD (joinD a b) c = joinD a (joinD b c) :=
  top_ext (join_right (join_right ha hb) hc) (join_right ha (join_right hb hc)) fun x y => by
    rw [join_top (join_right ha hb) hc, join_top ha hb, join_top ha (join_right hb hc), join_top hb hc]; omega
theorem within_l {a b : List Dt} (ha : rightB a = true) (hb : rightB b = true) : withinB a (joinD a b) = true := (within_iff ha (join_right ha hb)).2 fun x y => by rw [join_top ha hb]; omega
theorem within_r {a b : List Dt} (ha : rightB a = true) (hb : rightB b = true) : withinB b (joinD a b) = true := (within_iff hb (join_right ha hb)).2 fun x y => by rw [join_top ha hb]; omega
theorem within_back {a b : List Dt} (ha : rightB a = true) (hb : rightB b = true) : withinB (joinD a b) a = withinB b a := by
  have h : withinB (joinD a b) a = true ↔ withinB b a = true := by
    rw [within_iff (join_right ha hb) ha, within_iff hb ha]
    constructor
    · intro h x y
      have := h x y
      rw [join_top ha hb] at this
      omega
    · intro h x y
      have := h x y
      rw [join_top ha hb]
      omega
  cases h1 : withinB (joinD a b) a <;> cases h2 : withinB b a <;> simp_all
theorem within_trans {a b c : List Dt} (ha : rightB a = true) (hb : rightB b = true) (hc : rightB c = true) (h1 : withinB a b = true) (h2 : withinB b c = true) : withinB a c = true := by
  rw [within_iff ha hb] at h1
  rw [within_iff hb hc] at h2
  exact (within_iff ha hc).2 fun x y => Int.le_trans (h1 x y) (h2 x y)
theorem within_nil {a : List Dt} (ha : rightB a = true) : withinB [] a = true := (within_iff rfl ha).2 fun x y => topI_pos ha x y
theorem within_refl {a : List Dt} (ha : rightB a = true) : withinB a a = true := (within_iff ha ha).2 fun x y => Int.le_refl _
theorem within_eq {a c : List Dt} (ha : rightB a = true) (hc : rightB c = true) (h1 : withinB a c = true) (h2 : withinB c a = true) : a = c := by
  rw [within_iff ha hc] at h1
  rw [within_iff hc ha] at h2
  exact top_ext ha hc fun x y => Int.le_antisymm (h1 x y) (h2 x y)
theorem has_add {l : List Dt} (h : rightB l = true) {d : Dt} (hd : mayB d = true) {i : Int} (h1 : 1 ≤ i) (h2 : i ≤ d.n) : hasB (addD l d) ⟨d.node, d.epoch, i⟩ = true := by
  unfold hasB topR
  rw [if_pos (dAddRight h d), topI_add h hd, if_pos (key_iff.2 ⟨rfl, rfl⟩)]
  simp only [Bool.and_eq_true, decide_eq_true_eq]
  omega
theorem within_add {l : List Dt} (h : rightB l = true) {d : Dt} (hd : mayB d = true) : withinB l (addD l d) = true := (within_iff h (dAddRight h d)).2 fun x y => by
  rw [topI_add h hd]
  split <;> omega
theorem top_add {l : List Dt} (h : rightB l = true) {d : Dt} (hd : mayB d = true) : topR (addD l d) d.node d.epoch = Max.max d.n (topR l d.node d.epoch) := by
  unfold topR
  rw [if_pos (dAddRight h d), if_pos h, topI_add h hd, if_pos (key_iff.2 ⟨rfl, rfl⟩)]
  omega
theorem ins_len : ∀ (l : List Dt) (d : Dt), (insD l d).length ≤ l.length + 1
  | [], d => by simp [insD]
  | x :: r, d => by
    have := ins_len r d
    unfold insD
    split
    · simp; omega
    · split <;> simp
theorem add_len (l : List Dt) (d : Dt) : (addD l d).length ≤ l.length + 1 := by
  unfold addD
  split
  · simp
  · split
    · omega
    · exact ins_len l d
/-! ### the order -/
def lt3 (a b : Dt) : Prop := a.node < b.node ∨ (a.node = b.node ∧ (a.epoch < b.epoch ∨ (a.epoch = b.epoch ∧ a.n < b.n)))
instance (a b : Dt) : Decidable (lt3 a b) := by unfold lt3; exact inferInstance
end Go.Hub
