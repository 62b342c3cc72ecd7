/- Merged by program (shrink.py): contracts and plain laws that the claim's statement uses, part 5. -/
import Derived.Test.YtkdeedhjkjffpaaMa4
set_option linter.all false

namespace Go.Proofs.Ytkdeedhjkjffpaa
open Go.RowKit Go.Hub
theorem ids_row {q i : Int} (h0 : (Lit.int .u8 q).wf = true) (h1 : (Lit.int .u8 i).wf = true) (dup same rec ack : Bool) (w : World) :
    Calls Try.prog 5 #[.int .u8 q, .int .u8 i, .bool dup, .bool same, .bool rec, .bool ack] w (fun e w' => e = .returned (.bool true) ∧ Below w.heap.size w w') := by
  have b0 : 0 ≤ q ∧ q ≤ 255 := by simpa [Lit.wf, IntKind.min, IntKind.max, IntKind.signed, IntKind.bits] using h0
  have b1 : 0 ≤ i ∧ i ≤ 255 := by simpa [Lit.wf, IntKind.min, IntKind.max, IntKind.signed, IntKind.bits] using h1
  exact (ids_walk q i dup same rec ack (by omega) (by omega) w).mono fun e w' h => ⟨h.2, h.1.below0⟩
end Go.Proofs.Ytkdeedhjkjffpaa
