/- Helps of our own: a struct that holds a slice of structs of its own, behind an append and a store. -/
import Derived.Test.YtagcfmmbbcnkbaaMem
set_option linter.all false
namespace Go.Hub
open Go.RowKit

theorem row_ne_struct {w : World} {g b : Nat} {t e : TypeId} {cs cs' : Array Value} (h : w.heap[g]? = some (.cells cs e (0, 0))) (hb : Blk w b t cs') (ht : t ≠ e) : g ≠ b := by
  rintro rfl
  unfold Blk at hb
  rw [h] at hb
  injection hb with hb
  injection hb with _ h2
  exact ht h2.symm

section
variable {M : Type} {E : List TypeId} {e : TypeId} {size : Nat} {rel : World → List Value → M → Prop} {B b : Nat}
/-- What an append and the store of the slice leave: w1 behind what went before, w2 behind the append, then the struct's slice is stored. -/
theorem push_parts (hsame : ∀ w w' cs m, Same E B w w' → rel w cs m → rel w' cs m) (he : e ∉ E) {v v2 : Value} {ms : List M} {m : M} {w w1 w2 : World} {xs cs : List Value} {t : TypeId} {sc : Array Value} (hb1 : B ≤ b) (hb2 : ∀ k, v.ownBlock = some k → B ≤ k)
    (hb : Blk w b t sc) (ht : t ≠ e) (htE : t ∉ E) (ho : Own w e size v ms.length xs) (hs : Seq size (rel w) xs ms) (k1 : Kept [] w w1) (o2 : Own w2 e size v2 (ms.length + 1) (xs ++ cs)) (k2 : Kept v.ownBlock.toList w1 w2)
    (at2 : ∀ k, v2.ownBlock = some k → v.ownBlock = some k ∨ w1.heap.size ≤ k) (hr : rel w1 cs m) (hl : cs.length = size) (hB : B ≤ w.heap.size) (i : Nat) :
    Blk (w2.setCell ⟨b, i, none⟩ v2) b t (sc.setIfInBounds i v2) ∧ (∀ k, v2.ownBlock = some k → B ≤ k) ∧ Own (w2.setCell ⟨b, i, none⟩ v2) e size v2 (ms ++ [m]).length (xs ++ cs) ∧ Seq size (rel (w2.setCell ⟨b, i, none⟩ v2)) (xs ++ cs) (ms ++ [m]) ∧
      Kept (b :: v.ownBlock.toList) w (w2.setCell ⟨b, i, none⟩ v2) ∧ Same E B w (w2.setCell ⟨b, i, none⟩ v2) ∧ (∀ k, v2.ownBlock = some k → v.ownBlock = some k ∨ w.heap.size ≤ k) := by
  have nb : ∀ k, v.ownBlock = some k → k ≠ b := fun k hk => by
    obtain ⟨_, cs, hcs⟩ := ho.blk k hk
    exact row_ne_struct hcs hb ht
  have hbw1 : Blk w1 b t sc := hb.kept k1 (by simp)
  have ho1 : Own w1 e size v ms.length xs := ho.kept k1 (by simp)
  have hbw2 : Blk w2 b t sc := hbw1.kept k2 (fun hx => nb b (by simpa using hx) rfl)
  have kk : Kept (b :: v.ownBlock.toList) w w2 := (k1.mono (L' := b :: v.ownBlock.toList) (by simp)).trans k2 (fun x hx _ => List.mem_cons_of_mem _ hx)
  have k3 : Kept (b :: v.ownBlock.toList) w (w2.setCell ⟨b, i, none⟩ v2) := kk.setCell (by simp) _
  have s1 : Same E B w w1 := .of_kept k1 (by simp)
  have s2 : Same E B w1 w2 := .of_kept k2 (fun x hx hlt => by
    have hx' : v.ownBlock = some x := by simpa using hx
    obtain ⟨_, cs, hcs⟩ := ho1.blk x hx'
    exact ⟨hb2 x hx', not_typ_of hcs he⟩)
  have s3 : Same E B w2 (w2.setCell ⟨b, i, none⟩ v2) := .of_kept (L := [b]) ((Kept.refl _ _).setCell (by simp) _) (fun x hx hlt => by
    simp at hx; subst hx
    exact ⟨hb1, hbw2.not_typ htE⟩)
  have nb2 : ∀ k, v2.ownBlock = some k → k ≠ b := fun k hk => by
    rcases at2 k hk with h | h
    · exact nb k h
    · have := hbw1.lt; omega
  refine ⟨hbw2.set_ i v2, fun k hk => ?_, ?_, ?_, k3, (s1.trans s2).trans s3, fun k hk => ?_⟩
  · rcases at2 k hk with h | h
    · exact hb2 k h
    · have := k1.size; omega
  · have := o2.of_eq (w' := w2.setCell ⟨b, i, none⟩ v2) (fun k hk => Below.heap_setCell _ _ _ _ (nb2 k hk))
    simpa using this
  · refine Seq.append (hs.imp fun cs m h => hsame _ _ cs m ((s1.trans s2).trans s3) h) (Seq.one hl (hsame _ _ _ _ (s2.trans s3) hr))
  · rcases at2 k hk with h | h
    · exact .inl h
    · exact .inr (by have := k1.size; omega)
end
/-- 'append(append(nil, l[:k]...), l[k+1:]...)': all is new. -/
theorem join_fresh {W w1 w2 : World} {v1 v2 : Value} (k1 : Kept (Value.slice none 0 0).ownBlock.toList W w1) (k2 : Kept v1.ownBlock.toList w1 w2) (a1 : ∀ k, v1.ownBlock = some k → (Value.slice none 0 0).ownBlock = some k ∨ W.heap.size ≤ k)
    (a2 : ∀ k, v2.ownBlock = some k → v1.ownBlock = some k ∨ w1.heap.size ≤ k) : Kept [] W w2 ∧ ∀ k, v2.ownBlock = some k → W.heap.size ≤ k := by
  have b1 : ∀ k, v1.ownBlock = some k → W.heap.size ≤ k := fun k hk => by
    rcases a1 k hk with h | h
    · simp [Value.ownBlock] at h
    · exact h
  have h1 : Kept [] W w1 := k1
  refine ⟨h1.trans k2 (fun x hx hlt => by have := b1 x (by simpa using hx); omega), fun k hk => ?_⟩
  rcases a2 k hk with h | h
  · exact b1 k h
  · have := h1.size; omega
/-- what holds of each cell of each element holds of each cell -/
theorem Seq.all {M : Type} {size : Nat} {rel : List Value → M → Prop} {xs : List Value} {ms : List M} {p : Value → Prop} (hpos : 0 < size) (h : Seq size rel xs ms) (hr : ∀ cs m, rel cs m → ∀ u ∈ cs, p u) : ∀ u ∈ xs, p u := by
  intro u hu
  obtain ⟨j, hj, rfl⟩ := List.mem_iff_getElem.1 hu
  have hlt : j / size < ms.length := by
    have := h.1
    exact Nat.div_lt_of_lt_mul (by rw [Nat.mul_comm]; omega)
  refine hr _ _ (h.2 (j / size) ms[j / size] (by simp [hlt])) _ ?_
  have hm : j % size < size := Nat.mod_lt _ hpos
  have e : j / size * size + j % size = j := by rw [Nat.mul_comm]; exact Nat.div_add_mod j size
  refine List.mem_iff_getElem?.2 ⟨j % size, ?_⟩
  rw [List.getElem?_take, if_pos hm, List.getElem?_drop, e]
  simp
end Go.Hub
