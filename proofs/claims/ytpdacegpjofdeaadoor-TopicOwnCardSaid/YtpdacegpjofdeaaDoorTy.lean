/- What the rows list, as the walks ask for it; what the arguments read as. -/
import Derived.Test.YtpdacegpjofdeaaDoorTx
import Derived.Test.YtpdacegpjofdeaaDoorArgs
import Derived.Test.YtpdacegpjofdeaaDoorRows
import Derived.Lib.LaidU8T
import Derived.Shelf.Vars
set_option linter.all false
namespace Go.Proofs.YtpdacegpjofdeaaDoor
open Go.RowKit Go.Hub Go.Lib Go.Shelf Go.ChangeShapes Go.WideShapes Go.Deep

def laidU : List (String × DataW Unit) := [("unicode/utf8.acceptRanges", Rows.laid_unicode_utf8_acceptRanges), ("unicode/utf8.first", Rows.laid_unicode_utf8_first)]
def tabRen : Ren := ⟨fun n => n, fun | 119 => 53 | 138 => 55 | 139 => 56 | n => n, fun | 3 => 0 | 4 => 1 | n => n⟩
theorem tabTypes : U8Types Tryd.prog tabRen := { t5 := by kernel_rfl, t119 := by kernel_rfl, t138 := by kernel_rfl, t139 := by kernel_rfl }
theorem tabExtra : U8Extra Tryd.prog tabRen := { n3 := by kernel_rfl, n4 := by kernel_rfl, y3 := by kernel_rfl, y4 := by kernel_rfl, c5 := by kernel_rfl, c119 := by kernel_rfl, c138 := by kernel_rfl }
theorem first_eq : Rows.laid_unicode_utf8_first = firstData := by kernel_rfl
theorem accept_eq : (Rows.laid_unicode_utf8_acceptRanges : DataW Unit) = acceptData := by kernel_rfl
theorem tabs_of {w : World} (h : laidMet Tryd.prog laidU w) : Tabs w := by
  have h1 := laidMet.reads h (n := "unicode/utf8.first") (d := Rows.laid_unicode_utf8_first) (by simp [laidU])
  have h2 := laidMet.reads h (n := "unicode/utf8.acceptRanges") (d := Rows.laid_unicode_utf8_acceptRanges) (by simp [laidU])
  rw [first_eq] at h1
  rw [accept_eq] at h2
  exact utf8Tabs_of_readsT tabTypes tabExtra h1 h2
theorem laid_filter : (laidU.filter fun x => x.2.handleName?.isSome) = [] := by kernel_rfl
theorem met_of {w : World} (h : laidMetH Tryd.prog laidU w) : laidMet Tryd.prog laidU w := by
  unfold laidMetH at h
  rw [laid_filter] at h
  exact h
theorem met_to {w : World} (h : laidMet Tryd.prog laidU w) : laidMetH Tryd.prog laidU w := by
  unfold laidMetH
  rw [laid_filter]
  exact h

/-- A WORLD FOR THE WITNESS: the settled one, both tables holding what their initialisers lay. -/
def layIn (cs : List Value) : Obj → Obj
  | .cells _ t frozen => .cells cs.toArray t frozen
  | o => o
def firstCells : List Value := (List.range 256).map fun c => Value.int .u8 (firstT c : Int)
def acceptCells : List Value := (List.range 32).map fun c => Value.int .u8 (if c % 2 = 0 then (accLo (c / 2) : Int) else (accHi (c / 2) : Int))
noncomputable def laidWorld (os : Os) : World :=
  { World.holding Tryd.prog os ⟨#[], #[], []⟩ with heap := ((World.holding Tryd.prog os ⟨#[], #[], []⟩).heap.modify 0 (layIn firstCells)).modify 1 (layIn acceptCells) }

theorem glob_of {w : World} (h : laidMet Tryd.prog laidU w) (hsh : w.ShapedOpen Tryd.prog) : Glob w := by
  obtain ⟨s0, hs⟩ := cell_of_shapedOpen_int (P := Tryd.prog) (g := 2) (t := 3) (zero := #[.int .i64 0]) hsh (of_decide_eq_true (by kernel_rfl)) (by kernel_rfl) rfl (by kernel_rfl) (by kernel_rfl) Tryd.underlying3
  exact ⟨tabs_of h, s0, hs⟩
section
variable {H : Type} {enc : TypeId × Value → H} {w : World} {spare : Nat → Bool} {held : Bool}
def IsBs (w : World) (v : Value) : Prop := ∃ (us : List UInt8) (A : Option Addr) (c : Nat), v = .slice A us.length c ∧ Us w A us
/-- an argument that is a byte slice -/
theorem arg_us {b0 : Nat} {r : Reach} {v : Value} {d : DataW H} {p : List MemPlace} (hv : Value.okWide Tryd.prog w r b0 22 v) (h : DataW.Trod enc Tryd.prog w 0 spare held 22 v d p) : IsBs w v := by
  obtain ⟨A, c, l, rfl, _, h2⟩ := arg_bytes [5] Tryd.underlying22 Tryd.underlying5 (show Tryd.prog.cellsOf 5 = 1 by kernel_rfl) hv h
  exact ⟨l, A, c, rfl, Us.of_bs h2⟩
end
theorem end_of {e : Ending} {w w' : World} (h : Kept [] w w' ∧ e = .returned (.bool true)) : e = .returned (.bool true) ∧ Below w.heap.size w w' := ⟨h.2, h.1.below0⟩
theorem all_row {s : ByteArray} {v : Value} {w : World} (G : Glob w) (h : IsBs w v) : Calls Tryd.prog 7 #[.string s, v] w fun e w' => e = .returned (.bool true) ∧ Below w.heap.size w w' := by
  obtain ⟨us, A, c, rfl, h⟩ := h
  exact (all_walk s us A c w G h).mono fun _ _ => end_of
theorem levels_row {s : ByteArray} {v : Value} {w : World} (G : Glob w) (h : IsBs w v) : Calls Tryd.prog 6 #[.string s, v] w fun e w' => e = .returned (.bool true) ∧ Below w.heap.size w w' := by
  obtain ⟨us, A, c, rfl, h⟩ := h
  exact (levels_walk s us A c w G h).mono fun _ _ => end_of
theorem bd8 {k : Int} (h : (Lit.int .u8 k).wf = true) : 0 ≤ k ∧ k < 256 := by have := bd_u8 h; omega
theorem within_row {v0 v1 v2 : Value} {k3 k4 k5 : Int} {w : World} (G : Glob w) (h0 : IsBs w v0) (h1 : IsBs w v1) (h2 : IsBs w v2) (w3 : (Lit.int .u8 k3).wf = true) (w4 : (Lit.int .u8 k4).wf = true) (w5 : (Lit.int .u8 k5).wf = true) :
    Calls Tryd.prog 4 #[v0, v1, v2, .int .u8 k3, .int .u8 k4, .int .u8 k5] w fun e w' => e = .returned (.bool true) ∧ Below w.heap.size w w' := by
  obtain ⟨us0, A0, c0, rfl, h0⟩ := h0
  obtain ⟨us1, A1, c1, rfl, h1⟩ := h1
  obtain ⟨us2, A2, c2, rfl, h2⟩ := h2
  exact (within_walk w G us0 A0 c0 h0 us1 A1 c1 h1 us2 A2 c2 h2 k3 (bd8 w3).1 (bd8 w3).2 k4 (bd8 w4).1 (bd8 w4).2 k5 (bd8 w5).1 (bd8 w5).2).mono fun _ _ => end_of
theorem tells_row {a b : ByteArray} {v2 v3 : Value} {k4 k5 : Int} {w : World} (G : Glob w) (h2 : IsBs w v2) (h3 : IsBs w v3) (w4 : (Lit.int .u8 k4).wf = true) (w5 : (Lit.int .u8 k5).wf = true) :
    Calls Tryd.prog 3 #[.string a, .string b, v2, v3, .int .u8 k4, .int .u8 k5] w fun e w' => e = .returned (.bool true) ∧ Below w.heap.size w w' := by
  obtain ⟨us2, A2, c2, rfl, h2⟩ := h2
  obtain ⟨us3, A3, c3, rfl, h3⟩ := h3
  exact (tells_walk a b w G us2 A2 c2 h2 us3 A3 c3 h3 k4 (bd8 w4).1 (bd8 w4).2 k5 (bd8 w5).1 (bd8 w5).2).mono fun _ _ => end_of
end Go.Proofs.YtpdacegpjofdeaaDoor
