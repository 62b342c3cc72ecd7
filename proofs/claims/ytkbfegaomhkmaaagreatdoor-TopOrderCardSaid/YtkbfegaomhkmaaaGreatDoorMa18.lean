/- TopOrder, as its row has it: what the row lists, a world that holds it, the law for arguments that are in their kinds' bounds. -/
import Derived.Test.YtkbfegaomhkmaaaGreatDoorRows
import Derived.ProofKit
import Derived.OpenShut
import Derived.Test.YtkbfegaomhkmaaaGreatDoorMa17
set_option linter.all false
namespace Go.Proofs.YtkbfegaomhkmaaaGreatDoor
open Go
def laidU : List (String × DataW Unit) := [("math/bits.deBruijn32tab", Rows.laid_math_bits_deBruijn32tab), ("math/bits.deBruijn64tab", Rows.laid_math_bits_deBruijn64tab), ("internal/strconv.uint64pow10", Rows.laid_internal_strconv_uint64pow10), ("unicode/utf8.acceptRanges", Rows.laid_unicode_utf8_acceptRanges), ("unicode/utf8.first", Rows.laid_unicode_utf8_first)]
def litV : Lit → Value
  | .int k n => .int k n
  | .bool b => .bool b
  | _ => undef
def cellsD {H : Type} : Nat → DataW H → List Value
  | 0, _ => []
  | _ + 1, .lit l => [litV l]
  | n + 1, .agg ds => ds.flatMap fun d => cellsD n d
  | _, _ => []
def layIn (d : DataW Unit) : Obj → Obj
  | .cells _ t frozen => .cells (cellsD 4 d).toArray t frozen
  | o => o
noncomputable def laidWorld (os : Os) : World :=
  { World.holding Tryz.prog os ⟨#[], #[], []⟩ with heap := ((((((World.holding Tryz.prog os ⟨#[], #[], []⟩).heap.modify 4 (layIn Rows.laid_math_bits_deBruijn32tab)).modify 5 (layIn Rows.laid_math_bits_deBruijn64tab)).modify 2 (layIn Rows.laid_internal_strconv_uint64pow10)).modify 1 (layIn Rows.laid_unicode_utf8_acceptRanges)).modify 0 (layIn Rows.laid_unicode_utf8_first)) }
theorem bd8 {k : Int} (h : (Lit.int .u8 k).wf = true) : 0 ≤ k ∧ k ≤ 255 := by simpa [Lit.wf, IntKind.min, IntKind.max, IntKind.signed, IntKind.bits] using h
theorem ord_row (a0 a1 : Int) (w0 : (Lit.int .u8 a0).wf = true) (w1 : (Lit.int .u8 a1).wf = true) (w : World) : Calls Tryz.prog 3 #[.int .u8 a0, .int .u8 a1] w fun e w' => e = .returned (.bool true) ∧ Go.Ev.Kept w w' := Go.Ev.ord_true a0 a1 (bd8 w0) (bd8 w1) w
end Go.Proofs.YtkbfegaomhkmaaaGreatDoor
