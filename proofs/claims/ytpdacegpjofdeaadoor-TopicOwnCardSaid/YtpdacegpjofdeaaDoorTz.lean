/- Plain laws of a name's own filters: one level turned to a plus, a # behind some of its levels, one level more. -/
import Derived.Test.YtpdacegpjofdeaaDoorTy
set_option linter.all false
namespace Go.Proofs.YtpdacegpjofdeaaDoor
open Go.RowKit Go.Hub Go.Lib
theorem jn_mem_len : ∀ (L : List (List UInt8)) (x : List UInt8), x ∈ L → x.length ≤ (jn L).length
  | [], x, h => by cases h
  | a :: r, x, h => by
    rw [jn, List.length_append]
    rcases List.mem_cons.1 h with rfl | h
    · omega
    · have : ∀ r : List (List UInt8), x ∈ r → x.length ≤ (r.flatMap fun y => 47 :: y).length := by
        intro r
        induction r with
        | nil => intro h; cases h
        | cons b r ih =>
          intro h
          rw [List.flatMap_cons, List.length_append, List.length_cons]
          rcases List.mem_cons.1 h with rfl | h
          · omega
          · have := ih h; omega
      have := this r h
      omega
theorem join_mem_size {l : List ByteArray} {x : ByteArray} (h : x ∈ l) : x.size ≤ (joinB l).size := by
  have := jn_mem_len (l.map (·.data.toList)) x.data.toList (List.mem_map.2 ⟨x, h, rfl⟩)
  rw [← joinB_data] at this
  simpa using this
/-- levels that may be a filter's, joined, matched against a name -/
theorem own_any {s : ByteArray} {l : List ByteArray} (hn : nameB s = true) (hne : l ≠ []) (h47 : ∀ x ∈ l, 47 ∉ x.data.toList) (hU : ∀ x ∈ l, Go.Hub.okL x.data.toList = true) (h0 : 0 < (joinB l).size) (h1 : (joinB l).size ≤ 65535) (hok : okAll l = true) :
    matchB (joinB l) s = (!(prefB (hd0 (levelsL s)) dollar && (decide (hd0 l = plus) || decide (hd0 l = hash))) && goesB l (levelsL s)) := by
  have hl := levels_join hne h47
  have hf : filterB (joinB l) = true := by
    unfold filterB
    rw [text_join hne hU h0 h1, hl, hok]
    rfl
  rw [match_def, hf, hn]
  unfold veil
  rw [hl]
  rfl
theorem hd_zero {l : List ByteArray} {x : ByteArray} (r : List ByteArray) (e : l = x :: r) : hd0 l = x := by rw [e]; rfl
section
variable {s : ByteArray} (hn : nameB s = true)
include hn
theorem lev47 : ∀ x ∈ levelsL s, 47 ∉ x.data.toList := levels_no s
theorem levU : ∀ x ∈ levelsL s, Go.Hub.okL x.data.toList = true := text_levels (name_text hn)
theorem own_plus {i : Nat} (hi : i < (levelsL s).length) (h1 : (joinB ((levelsL s).set i plus)).size ≤ 65535) : matchB (joinB ((levelsL s).set i plus)) s = (decide (0 < i) || !prefB (hd0 (levelsL s)) dollar) := by
  have hm : ∀ x ∈ (levelsL s).set i plus, x ∈ levelsL s ∨ x = plus := fun x hx => List.mem_or_eq_of_mem_set hx
  have hp : plus ∈ (levelsL s).set i plus := List.mem_set hi plus
  rw [own_any hn (fun e => by rw [e] at hp; cases hp) (fun x hx => by rcases hm x hx with h | rfl; exact levels_no s x h; decide) (fun x hx => by rcases hm x hx with h | rfl; exact levU hn x h; kernel_rfl)
    (Nat.lt_of_lt_of_le (by decide : 0 < plus.size) (join_mem_size hp)) h1 (ok_all _ fun x hx => by rcases hm x hx with h | rfl; exact .inr (name_levels hn x h); exact .inl rfl), goes_set, Bool.and_true]
  obtain ⟨r, e⟩ := hd_cons s
  have hh := hd_not hn
  cases i with
  | zero =>
    have : hd0 ((levelsL s).set 0 plus) = plus := by rw [e]; rfl
    rw [this]
    simp
  | succ i =>
    have : hd0 ((levelsL s).set (i + 1) plus) = hd0 (levelsL s) := by
      conv => lhs; rw [e]
      rfl
    rw [this]
    simp [hh.1, hh.2]
theorem own_hash {i : Nat} (hi : i < (levelsL s).length) (h1 : (joinB ((levelsL s).take i ++ [hash])).size ≤ 65535) : matchB (joinB ((levelsL s).take i ++ [hash])) s = (decide (0 < i) || !prefB (hd0 (levelsL s)) dollar) := by
  have hm : ∀ x ∈ (levelsL s).take i ++ [hash], x ∈ levelsL s ∨ x = hash := fun x hx => by
    rcases List.mem_append.1 hx with h | h
    · exact .inl (List.mem_of_mem_take h)
    · exact .inr (by simpa using h)
  have hp : hash ∈ (levelsL s).take i ++ [hash] := by simp
  rw [own_any hn (by simp) (fun x hx => by rcases hm x hx with h | rfl; exact levels_no s x h; decide) (fun x hx => by rcases hm x hx with h | rfl; exact levU hn x h; kernel_rfl)
    (Nat.lt_of_lt_of_le (by decide : 0 < hash.size) (join_mem_size hp)) h1 (ok_hash _ fun x hx => name_levels hn x (List.mem_of_mem_take hx)), goes_take _ _ (by omega), Bool.and_true]
  obtain ⟨r, e⟩ := hd_cons s
  have hh := hd_not hn
  cases i with
  | zero =>
    have : hd0 ((levelsL s).take 0 ++ [hash]) = hash := rfl
    rw [this]
    simp
  | succ i =>
    have : hd0 ((levelsL s).take (i + 1) ++ [hash]) = hd0 (levelsL s) := by
      conv => lhs; rw [e]
      rfl
    rw [this]
    simp [hh.1, hh.2]
theorem more_join (a : UInt8) : s ++ ⟨#[47, a]⟩ = joinB (levelsL s ++ [⟨#[a]⟩]) := by
  rw [joinB_snoc (levels_ne s), join_levels]
  apply bl_ext
  simp [ByteArray.data_append, slash]
theorem own_deep (h1 : s.size ≤ 60000) : matchB (s ++ ⟨#[47, 35]⟩) s = true := by
  have hs : (joinB (levelsL s ++ [hash])).size = s.size + 2 := by
    have := more_join hn 35
    rw [show joinB (levelsL s ++ [hash]) = s ++ ⟨#[47, 35]⟩ from this.symm, ByteArray.size_append]
    rfl
  have hm : ∀ x ∈ levelsL s ++ [hash], x ∈ levelsL s ∨ x = hash := fun x hx => by simpa using hx
  rw [more_join hn 35]
  show matchB (joinB (levelsL s ++ [hash])) s = true
  have hg := goes_take (levelsL s).length (levelsL s) (Nat.le_refl _)
  rw [List.take_length] at hg
  rw [own_any hn (by simp) (fun x hx => by rcases hm x hx with h | rfl; exact levels_no s x h; decide) (fun x hx => by rcases hm x hx with h | rfl; exact levU hn x h; kernel_rfl)
    (by omega) (by omega) (ok_hash _ fun x hx => name_levels hn x hx), hg, Bool.and_true]
  obtain ⟨r, e⟩ := hd_cons s
  have hh := hd_not hn
  have : hd0 (levelsL s ++ [hash]) = hd0 (levelsL s) := by
    conv => lhs; rw [e]
    rfl
  rw [this]
  simp [hh.1, hh.2]
theorem own_more : matchB (s ++ ⟨#[47, 97]⟩) s = false := by
  rw [more_join hn 97, match_def, levels_join (by simp) (fun x hx => by
    rcases List.mem_append.1 hx with h | h
    · exact levels_no s x h
    · simp at h; subst h; decide), goes_more ⟨#[97]⟩ (fun h => absurd (congrArg (fun s : ByteArray => s.data.toList) h) (by decide)) _ (name_levels hn), Bool.and_false]
end
theorem snoc_pos {l : List ByteArray} {t y : ByteArray} {k : Nat} (hk : 0 < k) (ht : t = joinB (l.take k)) (hy : l[k]? = some y) : t ++ ⟨#[47]⟩ ++ y = joinB (l.take (k + 1)) := by
  rw [ht]
  exact join_next hk hy
theorem empty_app (y : ByteArray) : (⟨#[]⟩ : ByteArray) ++ y = y := bl_ext (by simp [ByteArray.data_append])
theorem snoc_zero {l : List ByteArray} {t y : ByteArray} {k : Nat} (hk : ¬ 0 < k) (ht : t = joinB (l.take k)) (hy : l[k]? = some y) : t ++ y = joinB (l.take (k + 1)) := by
  obtain rfl : k = 0 := by omega
  have e : t = ⟨#[]⟩ := ht
  rw [e, empty_app, join_one hy]
theorem hash_pos {l : List ByteArray} {t : ByteArray} {k i : Nat} (a : ByteArray) (hl : k < l.length) (hk : 0 < k) (hi : k = i) (ht : t = joinB ((l.set i a).take k)) : t ++ ⟨#[47]⟩ ++ ⟨#[35]⟩ = joinB (l.take i ++ [hash]) := by
  subst hi
  have hne : l.take k ≠ [] := fun e => by
    have := congrArg List.length e
    rw [List.length_take, Nat.min_eq_left (by omega)] at this
    simp only [List.length_nil] at this
    omega
  have e : (l.set k a).take k = l.take k := by rw [List.take_set_of_le (Nat.le_refl k)]
  rw [ht, e, joinB_snoc hne]
  rfl
theorem hash_zero {l : List ByteArray} {t : ByteArray} {k i : Nat} (a : ByteArray) (hk : ¬ 0 < k) (hi : k = i) (ht : t = joinB ((l.set i a).take k)) : t ++ ⟨#[35]⟩ = joinB (l.take i ++ [hash]) := by
  subst hi
  obtain rfl : k = 0 := by omega
  have e : t = ⟨#[]⟩ := ht
  rw [e, empty_app]
  rfl
theorem set_at {l : List ByteArray} {k i : Nat} (a : ByteArray) (hl : k < l.length) (h : k = i) : (l.set i a)[k]? = some a := by
  subst h
  rw [List.getElem?_set_self hl]
theorem set_not {l : List ByteArray} {k i : Nat} {y : ByteArray} (a : ByteArray) (hy : l[k]? = some y) (h : ¬ k = i) : (l.set i a)[k]? = some y := by
  rw [List.getElem?_set_ne (fun e => h e.symm)]
  exact hy
end Go.Proofs.YtpdacegpjofdeaaDoor
