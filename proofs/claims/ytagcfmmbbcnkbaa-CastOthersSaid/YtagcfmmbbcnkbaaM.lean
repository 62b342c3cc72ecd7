/- CastOthers on the arguments as they come. -/
import Derived.Test.YtagcfmmbbcnkbaaL
set_option linter.all false
namespace Go.Proofs.Ytagcfmmbbcnkbaa
open Go.RowKit Go.Hub
theorem others_law (st : ByteArray) (n : Int) (v : Value) (w : World) (h : IsPacket w v) : Calls Try.prog 4 #[.string st, .int .i64 n, v] w fun e w' => e = .returned (.bool true) ∧ Below w.heap.size w w' := by
  obtain ⟨p, s, rfl, ho, hf⟩ := h
  exact others_any st n p s w ho hf.2.2.2.1
end Go.Proofs.Ytagcfmmbbcnkbaa
