/- What the rows list, as the walks ask for it; what the arguments read as. -/
import Derived.Test.YtpjapcgidjoliaaDoorL
import Derived.Test.YtpjapcgidjoliaaDoorArgs
import Derived.Test.YtpjapcgidjoliaaDoorRows
import Derived.Lib.LaidU8T
set_option linter.all false
namespace Go.Proofs.YtpjapcgidjoliaaDoor
open Go.RowKit Go.Hub Go.Lib Go.Shelf Go.ChangeShapes Go.WideShapes Go.Deep

def laidU : List (String × DataW Unit) := [("unicode/utf8.acceptRanges", Rows.laid_unicode_utf8_acceptRanges), ("unicode/utf8.first", Rows.laid_unicode_utf8_first)]
def tabRen : Ren := ⟨fun n => n, fun | 119 => 47 | 138 => 49 | 139 => 50 | n => n, fun | 3 => 0 | 4 => 1 | n => n⟩
theorem tabTypes : U8Types Tryd.prog tabRen := { t5 := by kernel_rfl, t119 := by kernel_rfl, t138 := by kernel_rfl, t139 := by kernel_rfl }
theorem tabExtra : U8Extra Tryd.prog tabRen := { n3 := by kernel_rfl, n4 := by kernel_rfl, y3 := by kernel_rfl, y4 := by kernel_rfl, c5 := by kernel_rfl, c119 := by kernel_rfl, c138 := by kernel_rfl }
theorem first_eq : Rows.laid_unicode_utf8_first = firstData := by kernel_rfl
theorem accept_eq : (Rows.laid_unicode_utf8_acceptRanges : DataW Unit) = acceptData := by kernel_rfl
theorem tabs_of {w : World} (h : laidMet Tryd.prog laidU w) : Tabs w := by
  have h1 := laidMet.reads h (n := "unicode/utf8.first") (d := Rows.laid_unicode_utf8_first) (by simp [laidU])
  have h2 := laidMet.reads h (n := "unicode/utf8.acceptRanges") (d := Rows.laid_unicode_utf8_acceptRanges) (by simp [laidU])
  rw [first_eq] at h1
  rw [accept_eq] at h2
  exact utf8Tabs_of_readsT tabTypes tabExtra h1 h2
theorem laid_filter : (laidU.filter fun x => x.2.handleName?.isSome) = [] := by kernel_rfl
theorem met_of {w : World} (h : laidMetH Tryd.prog laidU w) : laidMet Tryd.prog laidU w := by
  unfold laidMetH at h
  rw [laid_filter] at h
  exact h
theorem met_to {w : World} (h : laidMet Tryd.prog laidU w) : laidMetH Tryd.prog laidU w := by
  unfold laidMetH
  rw [laid_filter]
  exact h

/-- A WORLD FOR THE WITNESS: the settled one, both tables holding what their initialisers lay. -/
def layIn (cs : List Value) : Obj → Obj
  | .cells _ t frozen => .cells cs.toArray t frozen
  | o => o
def firstCells : List Value := (List.range 256).map fun c => Value.int .u8 (firstT c : Int)
def acceptCells : List Value := (List.range 32).map fun c => Value.int .u8 (if c % 2 = 0 then (accLo (c / 2) : Int) else (accHi (c / 2) : Int))
noncomputable def laidWorld (os : Os) : World :=
  { World.holding Tryd.prog os ⟨#[], #[], []⟩ with heap := ((World.holding Tryd.prog os ⟨#[], #[], []⟩).heap.modify 0 (layIn firstCells)).modify 1 (layIn acceptCells) }

section
variable {H : Type} {enc : TypeId × Value → H} {w : World} {spare : Nat → Bool} {held : Bool}
/-- an argument that is a byte slice -/
theorem arg_sl {b0 : Nat} {r : Reach} {v : Value} {d : DataW H} {p : List MemPlace} (hv : Value.okWide Tryd.prog w r b0 22 v) (h : DataW.Trod enc Tryd.prog w 0 spare held 22 v d p) : ∃ l, Sl w.heap.size w v l := by
  obtain ⟨A, len, cap, xs, ms, rfl, h1, h2, h3, hr, hs⟩ := open_seq (rel := fun cs (x : UInt8) => cs = [Go.Hub.u8 x]) (show Tryd.prog.cellsOf 5 = 1 by kernel_rfl) (by omega) Tryd.underlying22 (okWide_slice Tryd.underlying22 hv) h (fun n cs y hy => by
    obtain ⟨z, e1, _, hz⟩ := DataW.trod_int Tryd.underlying5 hy
    have hb := bd_u8 hz
    exact ⟨UInt8.ofNat z.toNat, by rw [e1]; unfold Go.Hub.u8; rw [UInt8.toNat_ofNat']; congr 2; omega⟩)
  refine ⟨ms, A, cap, by rw [h3], ⟨rfl, fun hn => ?_⟩, by omega, h2⟩
  obtain ⟨b, off, e, hb, hc⟩ := hr.2 (by omega)
  refine ⟨b, off, e, hb, .inl hb, fun j x hx => ?_⟩
  have := hs.2 j x hx
  refine hc j _ ?_
  have h1 : (xs.drop (j * 1)).take 1 = [Go.Hub.u8 x] := this
  have h2 : ((xs.drop (j * 1)).take 1)[0]? = some (Go.Hub.u8 x) := by rw [h1]; rfl
  simpa using h2
end
end Go.Proofs.YtpjapcgidjoliaaDoor
