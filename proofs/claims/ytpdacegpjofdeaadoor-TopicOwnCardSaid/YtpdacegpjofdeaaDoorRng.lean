/- Helps of our own: the runes one by one; a string's iterator beside what the call owns. -/
import Derived.Test.YtpdacegpjofdeaaDoorUtf
import Derived.Test.YtpdacegpjofdeaaDoorMem
import Derived.Lib.OthersKept
set_option linter.all false
namespace Go.Hub
open Go.RowKit Go.Lib

/-! ### the runes one by one -/
theorem drop_ne {l : List UInt8} {i : Nat} (h : i < l.length) : l.drop i ≠ [] := fun e => by
  have := congrArg List.length e
  simp at this
  omega
theorem rw_at {l : List UInt8} {k : Nat} (h : wsum k l < l.length) : (rwl l)[k]? = some (decodeL (l.drop (wsum k l))) := by
  have h1 := rw_drop l k
  rw [rw_step _ (drop_ne h)] at h1
  have h2 : ((rwl l).drop k)[0]? = some (decodeL (l.drop (wsum k l))) := by rw [← h1]; rfl
  simpa using h2
theorem wsum_next {l : List UInt8} {k : Nat} (h : wsum k l < l.length) : wsum (k + 1) l = wsum k l + (decodeL (l.drop (wsum k l))).2 ∧ k < (rwl l).length := by
  refine ⟨?_, ?_⟩
  · rw [wsum_add, wsum_succ 0 _ (drop_ne h), wsum_zero]; omega
  · rcases Nat.lt_or_ge k (rwl l).length with h1 | h1
    · exact h1
    · have := wsum_all l k h1; omega
theorem wsum_end {l : List UInt8} {k : Nat} (h : ¬ wsum k l < l.length) : (rwl l).length ≤ k := by
  have h1 := rw_drop l k
  rw [List.drop_eq_nil_of_le (by omega), rw_nil] at h1
  have := congrArg List.length h1
  simp at this
  omega
/-- where the n-th rune begins -/
def placeL (l : List UInt8) (n : Int) : Int := if 0 ≤ n ∧ n ≤ ((rwl l).length : Int) then (wsum n.toNat l : Int) else -1
theorem placeL_at {l : List UInt8} {k : Nat} (h : k ≤ (rwl l).length) : placeL l (k : Int) = (wsum k l : Int) := by
  unfold placeL
  rw [if_pos (by omega), Int.toNat_natCast]
theorem placeL_no {l : List UInt8} {n : Int} (h : n < 0 ∨ ((rwl l).length : Int) < n) : placeL l n = -1 := by
  unfold placeL
  rw [if_neg (by omega)]
/-- the text's first n runes -/
def cutI (l : List UInt8) (n : Int) : List UInt8 := if n < 0 then [] else cutL n.toNat l
theorem cutI_neg {l : List UInt8} {n : Int} (h : n < 0) : cutI l n = [] := by unfold cutI; rw [if_pos h]
theorem cutI_at {l : List UInt8} {n : Int} (h : 0 ≤ placeL l n) : cutI l n = l.take (placeL l n).toNat := by
  unfold placeL at h ⊢
  split at h
  · rename_i h1
    unfold cutI cutL
    rw [if_neg (by omega), if_pos h1, Int.toNat_natCast]
  · omega
theorem cutI_all {l : List UInt8} {n : Int} (hn : 0 ≤ n) (h : placeL l n < 0) : cutI l n = l := by
  unfold placeL at h
  split at h
  · omega
  · unfold cutI
    rw [if_neg (by omega), cut_all _ _ (by omega)]
theorem placeL_le (l : List UInt8) (n : Int) : placeL l n ≤ l.length ∧ -1 ≤ placeL l n := by
  unfold placeL
  split
  · have := wsum_le l n.toNat; omega
  · omega

/-! ### the iterator -/
theorem iter_kept (w : World) (k : Nat) (s : ByteArray) (pos : Nat) : Kept [k] w (w.iterAt k s pos) :=
  ⟨rfl, rfl, rfl, by rw [iterAt_size]; exact Nat.le_refl _, fun j _ hn => iterAt_other w k j s pos (by simpa using hn)⟩
theorem iter_same {E : List TypeId} {B : Nat} {w : World} {k : Nat} {s : ByteArray} {pos : Nat} (h : w.heap[k]? = some (.stringIter s pos)) (hB : B ≤ k) (pos' : Nat) : Same E B w (w.iterAt k s pos') :=
  Same.of_kept (iter_kept w k s pos') (fun x hx _ => by
    simp at hx; subst hx
    exact ⟨hB, fun ⟨cs, e, f, hc, _⟩ => by rw [h] at hc; cases hc⟩)
theorem Own.iterAt {w : World} {e : TypeId} {size : Nat} {v : Value} {n : Nat} {xs : List Value} (h : Own w e size v n xs) {k : Nat} {s : ByteArray} {pos : Nat} (hk : w.heap[k]? = some (.stringIter s pos)) (pos' : Nat) : Own (w.iterAt k s pos') e size v n xs :=
  h.kept (iter_kept w k s pos') (fun j hj hm => by
    simp at hm
    subst hm
    obtain ⟨_, cs, hc⟩ := h.blk _ hj
    rw [hk] at hc; cases hc)
theorem iter_new (w : World) (s : ByteArray) : (w.iter s 0).heap[w.heap.size]? = some (.stringIter s 0) := World.iter_heap w s 0
theorem iter_below (w : World) (s : ByteArray) (pos : Nat) : Below w.heap.size w (w.iter s pos) := (Below.refl _ _).alloc (Nat.le_refl _) _
/-- the iterator stands, whatever the row is that was appended to -/
theorem iter_stays {w w' : World} {k : Nat} {s : ByteArray} {pos : Nat} (h : w.heap[k]? = some (.stringIter s pos)) {L : List Nat} (hk : Kept L w w') (hn : k ∉ L) : w'.heap[k]? = some (.stringIter s pos) :=
  (hk.block k (Array.getElem?_eq_some_iff.1 h).1 hn).trans h
end Go.Hub
