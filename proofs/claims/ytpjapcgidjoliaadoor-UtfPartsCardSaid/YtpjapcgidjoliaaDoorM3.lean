/- UtfParts on the arguments as they come. -/
import Derived.Test.YtpjapcgidjoliaaDoorQ
set_option linter.all false
namespace Go.Proofs.YtpjapcgidjoliaaDoor
open Go.RowKit Go.Hub Go.Lib
theorem parts_law (v0 v1 : Value) (k : Int) (w : World) (hT : Tabs w) (h0 : ∃ l, Sl w.heap.size w v0 l) (h1 : ∃ l, Sl w.heap.size w v1 l) (hk : (Lit.int .u8 k).wf = true) : Calls Tryd.prog 5 #[v0, v1, .int .u8 k] w fun e w' => e = .returned (.bool true) ∧ Below w.heap.size w w' := by
  obtain ⟨a, h0⟩ := h0
  obtain ⟨p, h1⟩ := h1
  exact parts_walk v0 v1 a p k w hT h0 h1 (bd_u8 hk)
end Go.Proofs.YtpjapcgidjoliaaDoor
