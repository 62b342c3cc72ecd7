/- Rows as the frame gives them: SessionOff. -/
import Derived.Test.YtdfllmiokgoekaaSr
set_option linter.all false
namespace Go.Proofs.Ytdfllmiokgoekaa
open Go.RowKit Go.Hub
theorem off_row {w : World} {a1 : Option Addr} {len1 cap1 : Nat} {z1 : List Int} (h1 : IsRow .u8 w a1 len1 cap1 z1) :
    Calls Try.prog 8 #[.slice a1 len1 cap1] w (fun e w' => e = .returned (.bool true) ∧ Below w.heap.size w w') := by
  obtain ⟨m1, l1, rfl, s1, b1⟩ := row_sl h1
  exact off_any l1 a1 cap1 w s1 (fun x hx => bounds_u8 (b1 x hx)) m1
end Go.Proofs.Ytdfllmiokgoekaa
