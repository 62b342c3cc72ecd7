/- UtfCuts on the arguments as they come. -/
import Derived.Test.YtpjapcgidjoliaaDoorR
set_option linter.all false
namespace Go.Proofs.YtpjapcgidjoliaaDoor
open Go.RowKit Go.Hub Go.Lib
theorem cuts_law (v0 v1 : Value) (k1 k2 : Int) (w : World) (hT : Tabs w) (h0 : ∃ l, Sl w.heap.size w v0 l) (h1 : ∃ l, Sl w.heap.size w v1 l) (hk1 : (Lit.int .u8 k1).wf = true) (hk2 : (Lit.int .u8 k2).wf = true) : Calls Tryd.prog 8 #[v0, v1, .int .u8 k1, .int .u8 k2] w fun e w' => e = .returned (.bool true) ∧ Below w.heap.size w w' := by
  obtain ⟨a, h0⟩ := h0
  obtain ⟨p, h1⟩ := h1
  exact cuts_walk v0 v1 a p k1 k2 w hT h0 h1 (bd_u8 hk1) (bd_u8 hk2)
end Go.Proofs.YtpjapcgidjoliaaDoor
