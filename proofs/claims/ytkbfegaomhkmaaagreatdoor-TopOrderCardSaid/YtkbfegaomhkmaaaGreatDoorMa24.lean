/- Closed facts of the row of TopOrder, a part. -/
import Derived.Test.YtkbfegaomhkmaaaGreatDoorCards
import Derived.JoinedCond
import Derived.KernelRfl
set_option linter.all false
set_option maxRecDepth 100000
namespace Go.Proofs.YtkbfegaomhkmaaaGreatDoor.topOrder
open Go
theorem g4 : Tryz.pinned.checked.prog.funcNamed Rows.topOrderRow.func = some 3 := by kernel_rfl
theorem g5 : Tryz.f3.isInstance Tryz.pinned.checked.prog Rows.topOrderRow.origin Rows.topOrderRow.targs := of_decide_eq_true (by kernel_rfl)
theorem g6 : Tryz.f3.isWrapper Tryz.pinned.checked.prog Rows.topOrderRow.wrapper Rows.topOrderRow.mainSum := by unfold Func.isWrapper; first | (rw [if_pos (by decide +kernel)]; kernel_rfl) | (rw [if_neg (by decide +kernel)]; exact ⟨rfl, rfl⟩)
theorem g7 : false = Tryz.pinned.checked.prog.looks [] := by kernel_rfl
end Go.Proofs.YtkbfegaomhkmaaaGreatDoor.topOrder
