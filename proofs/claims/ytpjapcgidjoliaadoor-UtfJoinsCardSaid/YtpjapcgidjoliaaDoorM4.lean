/- UtfJoins on the arguments as they come. -/
import Derived.Test.YtpjapcgidjoliaaDoorS
set_option linter.all false
namespace Go.Proofs.YtpjapcgidjoliaaDoor
open Go.RowKit Go.Hub Go.Lib
theorem joins_law (v0 v1 : Value) (w : World) (hT : Tabs w) (h0 : ∃ ns, Sr w v0 ns) (h1 : ∃ l, Sl w.heap.size w v1 l) : Calls Tryd.prog 6 #[v0, v1] w fun e w' => e = .returned (.bool true) ∧ Below w.heap.size w w' := by
  obtain ⟨a, h0⟩ := h0
  obtain ⟨p, h1⟩ := h1
  exact joins_walk v0 v1 a p w hT h0 h1
end Go.Proofs.YtpjapcgidjoliaaDoor
