/- UtfTells on the arguments as they come. -/
import Derived.Test.YtpjapcgidjoliaaDoorLaid
set_option linter.all false
namespace Go.Proofs.YtpjapcgidjoliaaDoor
open Go.RowKit Go.Hub Go.Lib
theorem tells_law (v0 v1 : Value) (n k : Int) (w : World) (hT : Tabs w) (h0 : ∃ l, Sl w.heap.size w v0 l) (h1 : ∃ l, Sl w.heap.size w v1 l) (hn : (Lit.int .i64 n).wf = true) (hk : (Lit.int .u8 k).wf = true) :
    Calls Tryd.prog 3 #[v0, v1, .int .i64 n, .int .u8 k] w fun e w' => e = .returned (.bool true) ∧ Below w.heap.size w w' := by
  obtain ⟨a, h0⟩ := h0
  obtain ⟨p, h1⟩ := h1
  exact tells_any v0 v1 a p n k w hT h0 h1 (bd_i64 hn) (bd_u8 hk)
end Go.Proofs.YtpjapcgidjoliaaDoor
