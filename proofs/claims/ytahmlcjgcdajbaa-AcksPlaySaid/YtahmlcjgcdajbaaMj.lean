/- AcksOwn over the frame's row. -/
import Derived.Test.YtahmlcjgcdajbaaMi
set_option linter.all false
namespace Go.Proofs.Ytahmlcjgcdajbaa
open Go.RowKit Go.Hub
theorem acksOwn_row {b : Int} {w : World} {a1 : Option Addr} {len1 cap1 : Nat} {z1 : List Int} (h1 : IsRow .u16 w a1 len1 cap1 z1) (h0 : (Lit.int .u8 b).wf = true) :
    Calls Try.prog 10 #[.slice a1 len1 cap1, .int .u8 b] w (fun e w' => e = .returned (.bool true) ∧ Below w.heap.size w w') := by
  obtain ⟨m1, l1, rfl, s1, b1⟩ := row_sl h1
  exact acksOwn_any l1 b a1 cap1 w (bounds_u8 h0) s1 (fun x hx => bounds_u16 (b1 x hx)) m1
end Go.Proofs.Ytahmlcjgcdajbaa
