/- The run of 'known': true. -/
import Derived.Test.YtkbfegaomhkmaaaGreatDoorMa3
set_option linter.all false
namespace Go.Ev
open Go Go.Proofs
theorem known_run : okT 33 (runT gdN ptN ent_s ext_s pool extN 4 (List.length ([] : List Nat)) (frm 1 (rowL []) 4)) = true := by kernel_rfl
end Go.Ev
