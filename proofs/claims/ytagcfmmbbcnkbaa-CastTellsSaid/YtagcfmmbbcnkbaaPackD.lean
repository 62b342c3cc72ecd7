/- The contract of hubbubseat.Packet, a Subscribe: what an append to its filters leaves. -/
import Derived.Test.YtagcfmmbbcnkbaaPackC
import Derived.Test.YtagcfmmbbcnkbaaPush
set_option linter.all false
namespace Go.Proofs.Ytagcfmmbbcnkbaa
open Go.RowKit Go.Hub

abbrev pkS (i : Int) (l : List (ByteArray × Int)) : Pk := { kind := 8, id := i, subs := l }
abbrev adS (A : Option Addr) (c : Nat) : Ad := { s0 with ua := A, uc := c }
theorem set_subs (i : Int) (l l' : List (ByteArray × Int)) (A A' : Option Addr) (c c' : Nat) : ((pkS i l).cells (adS A c)).setIfInBounds 22 (.slice A' l'.length c') = (pkS i l').cells (adS A' c') := by simp [Pk.cells]
/-- a Subscribe under way: the packet in block g, the result's in block r, at most m filters, in a row of the call's own -/
def Sk (w : World) (r g m : Nat) (wx : World) : Prop := ∃ (i : Int) (l : List (ByteArray × Int)) (A : Option Addr) (c : Nat), Blk wx g 28 ((pkS i l).cells (adS A c)) ∧ Blk wx r 28 zeroPk ∧ Own wx 58 2 (.slice A l.length c) l.length (subCells l) ∧
  (∀ k, (Value.slice A l.length c).ownBlock = some k → w.heap.size ≤ k) ∧ l.length ≤ m ∧ Below w.heap.size w wx
theorem sk_push {w wx W w2 : World} {r g m : Nat} {i : Int} {l : List (ByteArray × Int)} {A A2 : Option Addr} {c c2 : Nat} {x : ByteArray × Int} (y1 : Blk wx g 28 ((pkS i l).cells (adS A c))) (y0 : Blk wx r 28 zeroPk) (ho : Own wx 58 2 (.slice A l.length c) l.length (subCells l))
    (hk : ∀ k, (Value.slice A l.length c).ownBlock = some k → w.heap.size ≤ k) (hm : l.length ≤ m) (hb : Below w.heap.size w wx) (k1 : Kept [] wx W) (o2 : Own w2 58 2 (.slice A2 (l.length + 1) c2) (l.length + 1) (subCells l ++ [.string x.1, .int .i64 x.2]))
    (k2 : Kept (Value.slice A l.length c).ownBlock.toList W w2) (at2 : ∀ k, (Value.slice A2 (l.length + 1) c2).ownBlock = some k → (Value.slice A l.length c).ownBlock = some k ∨ W.heap.size ≤ k) (hrg : r ≠ g) (hg : w.heap.size ≤ g) :
    Sk w r g (m + 1) (w2.setCell ⟨g, 22, none⟩ (.slice A2 (l.length + 1) c2)) := by
  have n1 : ∀ k, (Value.slice A l.length c).ownBlock = some k → k ≠ g := fun k hk => by
    obtain ⟨_, cs, hcs⟩ := ho.blk k hk
    exact row_ne_struct hcs y1 (by decide)
  have n0 : ∀ k, (Value.slice A l.length c).ownBlock = some k → k ≠ r := fun k hk => by
    obtain ⟨_, cs, hcs⟩ := ho.blk k hk
    exact row_ne_struct hcs y0 (by decide)
  have z1 : Blk w2 g 28 ((pkS i l).cells (adS A c)) := (y1.kept k1 (by simp)).kept k2 (fun hx => n1 g (by simpa using hx) rfl)
  have z0 : Blk w2 r 28 zeroPk := (y0.kept k1 (by simp)).kept k2 (fun hx => n0 r (by simpa using hx) rfl)
  have nb2 : ∀ k, (Value.slice A2 (l.length + 1) c2).ownBlock = some k → k ≠ g := fun k hk => by
    rcases at2 k hk with h | h
    · exact n1 k h
    · have := (y1.kept k1 (by simp)).lt; omega
  have hl : (l ++ [x]).length = l.length + 1 := by simp
  have T := z1.set_ 22 (.slice A2 (l ++ [x]).length c2)
  rw [set_subs] at T
  rw [hl] at T
  have o3 := o2.of_eq (w' := w2.setCell ⟨g, 22, none⟩ (.slice A2 (l.length + 1) c2)) (fun k hk => Below.heap_setCell _ _ _ _ (nb2 k hk))
  have b2 : Below w.heap.size w w2 := (hb.trans (k1.below (by simp) hb.size)).trans (k2.below (fun x hx => hk x (by simpa using hx)) (by have := k1.size; have := hb.size; omega))
  have b3 := b2.trans (((Kept.refl [g] w2).setCell (p := ⟨g, 22, none⟩) (by simp) (.slice A2 (l.length + 1) c2)).below (B := w.heap.size) (by simpa using hg) b2.size)
  refine ⟨i, l ++ [x], A2, c2, T, z0.far hrg _, ?_, ?_, by rw [hl]; omega, b3⟩
  · rw [hl]
    have e : subCells (l ++ [x]) = subCells l ++ [.string x.1, .int .i64 x.2] := by simp [subCells]
    rw [e]
    exact o3
  · intro k hk2
    rw [hl] at hk2
    rcases at2 k hk2 with h | h
    · exact hk k h
    · have := k1.size; have := hb.size; omega
theorem own_new (w : World) (a b : Value) : Own (w.alloc (.cells #[a, b] 58)) 58 2 (.slice (some ⟨w.heap.size, 0, none⟩) 1 1) 1 [a, b] :=
  ⟨rfl, .inr ⟨w.heap.size, 0, 1, #[a, b], rfl, heap_alloc_new w _, by omega, by simp [maxLen], by simp, fun j u hu => by rw [Nat.zero_add]; simpa using hu⟩⟩
end Go.Proofs.Ytagcfmmbbcnkbaa
