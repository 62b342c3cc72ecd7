/- Slices that are read: what lies at an address ('Sl'), and at an element of it. -/
import Derived.Test.YtpdacegpjofdeaaDoorSt3
set_option linter.all false
namespace Go.Hub
open Go.RowKit

/-- the slice at A shows n elements of these cells -/
def Sl (w : World) (A : Option Addr) (n size : Nat) (xs : List Value) : Prop :=
  xs.length = n * size ∧ (0 < n → ∃ b off, A = some ⟨b, off, none⟩ ∧ b < w.heap.size ∧ ∀ j u, xs[j]? = some u → w.cell? ⟨b, off + j, none⟩ = some u)
/-- its block is none of L -/
def Far (A : Option Addr) (L : List Nat) : Prop := ∀ a, A = some a → a.block ∉ L
section
variable {w w' : World} {A : Option Addr} {n size : Nat} {xs : List Value} {L : List Nat}
theorem Sl.nil (w : World) (A : Option Addr) (size : Nat) : Sl w A 0 size [] := ⟨by simp, fun h => absurd h (by omega)⟩
theorem Sl.keptF (h : Sl w A n size xs) (hk : Kept L w w') (hf : Far A L) : Sl w' A n size xs :=
  ⟨h.1, fun hn => by
    obtain ⟨b, off, e, hb, hc⟩ := h.2 hn
    refine ⟨b, off, e, Nat.lt_of_lt_of_le hb hk.size, fun j u hu => ?_⟩
    rw [hk.cell (p := ⟨b, off + j, none⟩) hb (hf ⟨b, off, none⟩ e)]
    exact hc j u hu⟩
theorem Far.nil (A : Option Addr) : Far A [] := fun _ _ => by simp
theorem Sl.kept (h : Sl w A n size xs) (hk : Kept [] w w') : Sl w' A n size xs := h.keptF hk (Far.nil A)
/-- it lies below B -/
def Low (A : Option Addr) (B : Nat) : Prop := ∀ a, A = some a → a.block < B
theorem Low.far {B : Nat} (h : Low A B) (hL : ∀ x ∈ L, B ≤ x) : Far A L := fun a e hx => by
  have := h a e
  have := hL _ hx
  omega
theorem Sl.of_own {e : TypeId} {c : Nat} (h : Own w e size (.slice A n c) n xs) : Sl w A n size xs := by
  refine ⟨h.1, fun hn => ?_⟩
  rcases h.2 with ⟨_, h0⟩ | ⟨g, off, cap, cur, hv, hg, _, _, _, hc⟩
  · omega
  · injection hv with hA
    refine ⟨g, off, hA, (Array.getElem?_eq_some_iff.1 hg).1, fun j x hx => ?_⟩
    rw [cell_of_row w g _ cur e (0, 0) hg]
    exact hc j _ hx
theorem Sl.rds (h : Sl w A n size xs) : Rds w w.heap.size size A n xs := ⟨h.1, h.2⟩
theorem Sl.of_rds (h : Rds w w.heap.size size A n xs) : Sl w A n size xs := ⟨h.1, h.2⟩
theorem Sl.addr (h : Sl w A n size xs) (hn : 0 < n) : ∃ b off, A = some ⟨b, off, none⟩ := by
  obtain ⟨b, off, e, _⟩ := h.2 hn
  exact ⟨b, off, e⟩
/-- a cell -/
theorem Sl.cell (h : Sl w A n size xs) {b off j : Nat} {u : Value} (hn : 0 < n) (hA : A = some ⟨b, off, none⟩) (hu : xs[j]? = some u) : w.cell? ⟨b, off + j, none⟩ = some u := by
  obtain ⟨b', off', e, _, hc⟩ := h.2 hn
  rw [hA] at e
  injection e with e
  injection e with e1 e2
  subst e1 e2
  exact hc j u hu
/-- a row of cells -/
theorem Sl.row (h : Sl w A n size xs) {b off i : Nat} {cs : List Value} (hn : 0 < n) (hA : A = some ⟨b, off, none⟩) (hu : ∀ j u, cs[j]? = some u → xs[i * size + j]? = some u) : w.rangeAt b (off + i * size) cs := fun j u hj => by
  rw [Nat.add_assoc]
  exact h.cell hn hA (hu j u hj)
end
section
variable {P : Program} {a : Act} {w : World} {n : Nat} {l : FL} {dst : Option Nat} {ty : TypeId} {ps : String} {af : Array Edge} {g : Option (Nat × Bool)} {x y : Operand} {t : TypeId}
/-- the address of an element, the slice's own address by a fact -/
theorem E.indexA (f : Fr n a l) {e : TypeId} {A : Option Addr} {b o m c s : Nat} {k : IntKind} {i : Int} (hA : A = some ⟨b, o, none⟩) (ht : P.underlying t = some (.slice e)) (hs : (P.info? e).map (·.size) = some s) (hx : evl l x = some (.slice A m c)) (hy : evl l y = some (.int k i))
    (h0 : 0 ≤ i) (h1 : i < m) : (execOp a.eval ⟨dst, .indexAddr t x y, ty, ps, af, g⟩).run P w = .ok (.value (.pointer (some ⟨b, o + i.toNat * s, none⟩))) w := by
  subst hA
  exact E.indexAddr f ht hs hx hy h0 h1
theorem E.makeFunc1 (f : Fr n a l) {fn : Fn} {v : Value} (hx : evl l x = some v) : (execOp a.eval ⟨dst, .makeFunc fn #[] #[x], ty, ps, af, g⟩).run P w = .ok (.value (.func fn #[] #[v])) w := by simp [execOp, Instr.makeFunc, f.ev hx]
/-- a row whose cells are an array -/
theorem E.loadA (f : Fr n a l) {b o s : Nat} {cs : Array Value} {d : TypeDesc} (ht : P.underlying t = some d) (hd : d.isRow = true) (hi : (P.info? t).map (·.size) = some s) (hx : evl l x = some (.pointer (some ⟨b, o, none⟩))) (hc : w.rangeAt b o cs.toList) (hl : cs.size = s) :
    (execOp a.eval ⟨dst, .load t x, ty, ps, af, g⟩).run P w = .ok (.value (.agg cs)) w := by
  have := E.loadR (P := P) (w := w) (dst := dst) (ty := ty) (ps := ps) (af := af) (g := g) (t := t) f ht hd (cs := cs.toList) hi hx hc (by simpa using hl)
  simpa using this
end
/-! ### lists of elements of a fixed number of cells -/
section
variable {M : Type} (cell : M → List Value) (size : Nat) (hs : ∀ m, (cell m).length = size)
include hs
theorem flat_len (l : List M) : (l.flatMap cell).length = l.length * size := by
  induction l with
  | nil => simp
  | cons a r ih => simp [ih, hs, Nat.add_mul]; omega
theorem flat_at (l : List M) (i : Nat) (m : M) (h : l[i]? = some m) (j : Nat) (u : Value) (hu : (cell m)[j]? = some u) : (l.flatMap cell)[i * size + j]? = some u := by
  induction l generalizing i with
  | nil => simp at h
  | cons a r ih =>
    have hj : j < size := by
      have := (List.getElem?_eq_some_iff.1 hu).1
      rwa [hs] at this
    match i with
    | 0 =>
      simp at h
      subst h
      simp only [List.flatMap_cons, Nat.zero_mul, Nat.zero_add]
      rw [List.getElem?_append_left (by rw [hs]; exact hj)]
      exact hu
    | i + 1 =>
      have := ih i (by simpa using h)
      simp only [List.flatMap_cons]
      rw [List.getElem?_append_right (by rw [hs, Nat.add_mul]; omega), hs, Nat.add_mul, Nat.one_mul]
      rw [show i * size + size + j - size = i * size + j from by omega]
      exact this
end
end Go.Hub
