/- UtfEdges on the arguments as they come. -/
import Derived.Test.YtpjapcgidjoliaaDoorV
set_option linter.all false
namespace Go.Proofs.YtpjapcgidjoliaaDoor
open Go.RowKit Go.Hub Go.Lib
theorem edges_law (k d a b c : Int) (w : World) (hT : Tabs w) (hk : (Lit.int .u8 k).wf = true) (hd : (Lit.int .u8 d).wf = true) (ha : (Lit.int .u8 a).wf = true) (hb : (Lit.int .u8 b).wf = true) (hc : (Lit.int .u8 c).wf = true) : Calls Tryd.prog 7 #[.int .u8 k, .int .u8 d, .int .u8 a, .int .u8 b, .int .u8 c] w fun e w' => e = .returned (.bool true) ∧ Below w.heap.size w w' :=
  edges_walk k d a b c w hT (bd_u8 hk) (bd_u8 hd) (bd_u8 ha) (bd_u8 hb) (bd_u8 hc)
end Go.Proofs.YtpjapcgidjoliaaDoor
