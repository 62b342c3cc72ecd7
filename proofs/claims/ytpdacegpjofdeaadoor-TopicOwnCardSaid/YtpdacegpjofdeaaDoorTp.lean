/- Plain laws of levels: joined by slashes they are the text again, and are found in it; what a first byte tells. -/
import Derived.Test.YtpdacegpjofdeaaDoorTl
import Derived.Test.YtpdacegpjofdeaaDoorTu
set_option linter.all false
namespace Go.Proofs.YtpdacegpjofdeaaDoor
open Go.RowKit Go.Hub Go.Lib

theorem lv (s : ByteArray) : (levelsL s).map (·.data.toList) = sp s.data.toList := by
  unfold levelsL
  rw [splitB_data, sp_split]
  rfl
def jn : List (List UInt8) → List UInt8
  | [] => []
  | x :: r => x ++ r.flatMap (fun y => 47 :: y)
theorem jn_sp (l : List UInt8) : jn (sp l) = l := by
  induction l with
  | nil => rfl
  | cons b l ih =>
    obtain ⟨h, t, e⟩ := sp_ne l
    rw [e] at ih
    by_cases hb : b = 47
    · subst hb
      rw [sp, if_pos rfl, e]
      simpa [jn] using ih
    · rw [sp, if_neg hb, e]
      simpa [jn] using ih
theorem sp_app (x l : List UInt8) (h : 47 ∉ x) : sp (x ++ l) = consH x (sp l) := by
  induction x with
  | nil => rw [consH_nil]; rfl
  | cons b x ih =>
    have hb : b ≠ 47 := fun e => h (by simp [e])
    have ih := ih (fun hm => h (by simp [hm]))
    obtain ⟨p, t, e⟩ := sp_ne l
    rw [List.cons_append, sp, if_neg hb, ih, e]
    rfl
theorem sp_jn : ∀ (r : List (List UInt8)) (x : List UInt8), (∀ y ∈ x :: r, 47 ∉ y) → sp (jn (x :: r)) = x :: r
  | [], x, h => by
    have := sp_app x [] (h x (by simp))
    simpa [jn, sp, consH] using this
  | y :: r, x, h => by
    have ih := sp_jn r y (fun z hz => h z (by simp at hz ⊢; exact .inr hz))
    have e : jn (x :: y :: r) = x ++ 47 :: jn (y :: r) := by simp [jn]
    rw [e, sp_app x _ (h x (by simp)), sp, if_pos rfl, ih]
    simp [consH]
theorem sp_no (l : List UInt8) : ∀ x ∈ sp l, 47 ∉ x := by
  induction l with
  | nil => intro x hx; simp [sp] at hx; simp [hx]
  | cons b l ih =>
    obtain ⟨h, t, e⟩ := sp_ne l
    intro x hx
    by_cases hb : b = 47
    · rw [sp, if_pos hb] at hx
      rcases List.mem_cons.1 hx with rfl | hx
      · simp
      · exact ih x hx
    · rw [sp, if_neg hb, e] at hx
      rw [e] at ih
      rcases List.mem_cons.1 hx with rfl | hx
      · have := ih h (by simp)
        simp [this, Ne.symm hb]
      · exact ih x (by simp [hx])
theorem sp_len (l : List UInt8) : (sp l).length = l.count 47 + 1 := by
  induction l with
  | nil => rfl
  | cons b l ih =>
    obtain ⟨h, t, e⟩ := sp_ne l
    by_cases hb : b = 47
    · rw [sp, if_pos hb, List.length_cons, ih, hb, List.count_cons_self]
    · rw [sp, if_neg hb, List.count_cons_of_ne hb, ← ih, e]; rfl
theorem bl_ext {x y : ByteArray} (h : x.data.toList = y.data.toList) : x = y := ByteArray.ext (Array.toList_inj.1 h)
def joinB : List ByteArray → ByteArray
  | [] => ⟨#[]⟩
  | x :: r => r.foldl (fun t y => t ++ slash ++ y) x
theorem joinB_snoc {l : List ByteArray} (h : l ≠ []) (x : ByteArray) : joinB (l ++ [x]) = joinB l ++ slash ++ x := by
  cases l with
  | nil => exact absurd rfl h
  | cons y r => simp [joinB, List.foldl_append]
theorem fold_data (r : List ByteArray) : ∀ x : ByteArray, (r.foldl (fun t y => t ++ slash ++ y) x).data.toList = x.data.toList ++ (r.map (·.data.toList)).flatMap (fun y => 47 :: y) := by
  induction r with
  | nil => intro x; simp
  | cons y r ih =>
    intro x
    rw [List.foldl_cons, ih]
    simp [ByteArray.data_append, slash]
theorem joinB_data (l : List ByteArray) : (joinB l).data.toList = jn (l.map (·.data.toList)) := by
  cases l with
  | nil => rfl
  | cons x r => rw [joinB, fold_data]; rfl
theorem join_levels (s : ByteArray) : joinB (levelsL s) = s := bl_ext (by rw [joinB_data, lv, jn_sp])
theorem levels_join {l : List ByteArray} (hne : l ≠ []) (h : ∀ x ∈ l, 47 ∉ x.data.toList) : levelsL (joinB l) = l := by
  apply map_inj
  rw [lv, joinB_data]
  cases l with
  | nil => exact absurd rfl hne
  | cons x r =>
    rw [List.map_cons]
    refine sp_jn _ _ fun y hy => ?_
    rw [← List.map_cons (f := fun s : ByteArray => s.data.toList)] at hy
    obtain ⟨z, hz, rfl⟩ := List.mem_map.1 hy
    exact h z hz
theorem levels_no (s : ByteArray) : ∀ x ∈ levelsL s, 47 ∉ x.data.toList := fun x hx => sp_no s.data.toList _ (by rw [← lv]; exact List.mem_map.2 ⟨x, hx, rfl⟩)
theorem levels_ne (s : ByteArray) : levelsL s ≠ [] := by
  intro e
  have h := lv s
  obtain ⟨x, t, e'⟩ := sp_ne s.data.toList
  rw [e, e'] at h
  cases h
theorem levels_count (s : ByteArray) : (levelsL s).length = s.data.toList.count 47 + 1 := by
  rw [← sp_len, ← lv, List.length_map]
theorem hd_list (s : ByteArray) : (hd0 (levelsL s)).data.toList = (sp s.data.toList).headD [] := by
  rw [← lv]
  cases levelsL s <;> rfl
theorem first_at {s : ByteArray} {c : UInt8} (h : s[0]? = some c) : ∃ r, s.data.toList = c :: r := by
  rw [byte_at, ← Array.getElem?_toList] at h
  cases e : s.data.toList with
  | nil => rw [e] at h; cases h
  | cons b r => rw [e] at h; simp at h; exact ⟨r, by rw [h]⟩
theorem hd_head {s : ByteArray} {c : UInt8} (h : s[0]? = some c) : (hd0 (levelsL s)).data.toList.head? = if c = 47 then none else some c := by
  obtain ⟨r, e⟩ := first_at h
  rw [hd_list, e]
  obtain ⟨p, t, e'⟩ := sp_ne r
  rw [sp]
  split
  · rfl
  · rw [e']; rfl
theorem pref36 (x : ByteArray) : prefB x ⟨#[36]⟩ = decide (x.data.toList.head? = some 36) := by
  unfold prefB
  have e1 : (⟨#[36]⟩ : ByteArray).size = 1 := rfl
  rw [e1]
  have hs : x.size = x.data.toList.length := by simp
  cases e : x.data.toList with
  | nil => rw [e] at hs; rw [hs]; rfl
  | cons b r =>
    rw [e] at hs
    rw [decide_eq_true (by rw [hs]; simp : 1 ≤ x.size), Bool.true_and]
    refine decide_eq_decide.2 ⟨fun h => ?_, fun h => ?_⟩
    · have := congrArg (fun s : ByteArray => s.data.toList) h
      simp [ByteArray.data_extract, e] at this
      simp [this]
    · apply bl_ext
      simp at h
      simp [ByteArray.data_extract, e, h]
theorem veil36 {s : ByteArray} {c : UInt8} (h : s[0]? = some c) : prefB (hd0 (levelsL s)) ⟨#[36]⟩ = decide (((c.toNat : Nat) : Int) = 36) := by
  rw [pref36, hd_head h]
  have : (c = 36) ↔ ((c.toNat : Nat) : Int) = 36 := ⟨fun e => by rw [e]; rfl, fun e => UInt8.toNat_inj.1 (by have : (36 : UInt8).toNat = 36 := rfl; omega)⟩
  refine decide_eq_decide.2 ?_
  rw [← this]
  split
  · next e => subst e; simp
  · simp
theorem u8_is (c d : UInt8) : (c = d) ↔ ((c.toNat : Nat) : Int) = ((d.toNat : Nat) : Int) := ⟨fun e => by rw [e], fun e => UInt8.toNat_inj.1 (by omega)⟩
theorem text_pos {s : ByteArray} (h : textB s = true) : 0 < s.size := by
  unfold textB at h
  simp only [Bool.and_eq_true, decide_eq_true_eq] at h
  exact h.1
theorem filter_text {s : ByteArray} (h : filterB s = true) : textB s = true := by
  unfold filterB at h
  simp only [Bool.and_eq_true] at h
  exact h.1
theorem name_text {s : ByteArray} (h : nameB s = true) : textB s = true := by
  unfold nameB at h
  simp only [Bool.and_eq_true] at h
  exact h.1
theorem filter_pos {s : ByteArray} (h : filterB s = true) : 0 < s.size := text_pos (filter_text h)
theorem name_pos {s : ByteArray} (h : nameB s = true) : 0 < s.size := text_pos (name_text h)
theorem anyW_list (s : ByteArray) : anyW s = s.data.toList.any wildU := by unfold anyW; rw [ByteArray.toList_eq]
/-- a filter's first level that begins with a wild byte is that byte alone -/
theorem wild_first {s : ByteArray} {b : UInt8} (hf : filterB s = true) (h : s[0]? = some b) : (decide (hd0 (levelsL s) = ⟨#[43]⟩) = decide (((b.toNat : Nat) : Int) = 43)) ∧ (decide (hd0 (levelsL s) = ⟨#[35]⟩) = decide (((b.toNat : Nat) : Int) = 35)) := by
  have hh := hd_head h
  have ho : ∃ e, okL (hd0 (levelsL s)) e = true := by
    unfold filterB at hf
    simp only [Bool.and_eq_true] at hf
    cases e : levelsL s with
    | nil => exact absurd e (levels_ne s)
    | cons x r =>
      rw [e] at hf
      simp only [okAll, Bool.and_eq_true] at hf
      exact ⟨_, hf.2.1⟩
  obtain ⟨last, ho⟩ := ho
  have a43 := u8_is b 43
  have a35 := u8_is b 35
  have e43 : ((((43 : UInt8).toNat) : Nat) : Int) = 43 := rfl
  have e35 : ((((35 : UInt8).toNat) : Nat) : Int) = 35 := rfl
  rw [e43] at a43
  rw [e35] at a35
  have hw : b = 43 ∨ b = 35 → anyW (hd0 (levelsL s)) = true := by
    intro hb
    have h47 : b ≠ 47 := by rcases hb with rfl | rfl <;> decide
    rw [if_neg h47] at hh
    rw [anyW_list]
    cases e : (hd0 (levelsL s)).data.toList with
    | nil => rw [e] at hh; cases hh
    | cons x r =>
      rw [e] at hh
      simp at hh
      subst hh
      rw [List.any_cons]
      rcases hb with rfl | rfl <;> rfl
  constructor
  · refine decide_eq_decide.2 ?_
    rw [← a43]
    refine ⟨fun e => ?_, fun e => ?_⟩
    · rw [e] at hh
      have : some (43 : UInt8) = if b = 47 then none else some b := hh
      split at this
      · cases this
      · injection this with this; exact this.symm
    · have := hw (.inl e)
      unfold okL at ho
      rw [this] at ho
      simp only [Bool.not_true, Bool.or_false, Bool.or_eq_true, decide_eq_true_eq, Bool.and_eq_true] at ho
      rcases ho with ho | ho
      · exact ho
      · exfalso
        rw [ho.1, e] at hh
        exact absurd hh (by decide)
  · refine decide_eq_decide.2 ?_
    rw [← a35]
    refine ⟨fun e => ?_, fun e => ?_⟩
    · rw [e] at hh
      have : some (35 : UInt8) = if b = 47 then none else some b := hh
      split at this
      · cases this
      · injection this with this; exact this.symm
    · have := hw (.inr e)
      unfold okL at ho
      rw [this] at ho
      simp only [Bool.not_true, Bool.or_false, Bool.or_eq_true, decide_eq_true_eq, Bool.and_eq_true] at ho
      rcases ho with ho | ho
      · exfalso
        rw [ho, e] at hh
        exact absurd hh (by decide)
      · exact ho.1
theorem match_is {u v : ByteArray} {b c : UInt8} (h1 : filterB u = true) (h2 : nameB v = true) (hb : u[0]? = some b) (hc : v[0]? = some c) :
    matchB u v = (!(decide (((c.toNat : Nat) : Int) = 36) && (decide (((b.toNat : Nat) : Int) = 43) || decide (((b.toNat : Nat) : Int) = 35))) && goesB (levelsL u) (levelsL v)) := by
  have hw := wild_first h1 hb
  unfold matchB
  rw [h1, h2, veil36 hc, hw.1, hw.2]
  rfl
theorem within_is {u v : ByteArray} {b c : UInt8} (h1 : filterB u = true) (h2 : filterB v = true) (hc : u[0]? = some c) (hb : v[0]? = some b) :
    withinFB u v = (!(decide (((c.toNat : Nat) : Int) = 36) && (decide (((b.toNat : Nat) : Int) = 43) || decide (((b.toNat : Nat) : Int) = 35))) && withinB (levelsL u) (levelsL v)) := by
  have hw := wild_first h2 hb
  unfold withinFB
  rw [h1, h2, veil36 hc, hw.1, hw.2]
  rfl
end Go.Proofs.YtpdacegpjofdeaaDoor
