/- Closed facts of the row of TopOrder, a part. -/
import Derived.Test.YtkbfegaomhkmaaaGreatDoorCards
import Derived.JoinedCond
import Derived.KernelRfl
set_option linter.all false
set_option maxRecDepth 100000
namespace Go.Proofs.YtkbfegaomhkmaaaGreatDoor.topOrder
open Go
theorem k0 : (Rows.topOrderRow.wf (OpenSpec.ofChange (OpenSpec.ofChange Rows.topOrderSpec).bare)) = true := by kernel_rfl
theorem k1 : (laidOutB Tryz.pinned.checked.prog) = true := by kernel_rfl
theorem k2 : (mapsRowed Tryz.pinned.checked.prog) = true := by kernel_rfl
theorem k3 : (Tryz.f3.params.all (Tryz.pinned.checked.prog.readableRec ·)) = true := by kernel_rfl
theorem k4 : (namedTie Tryz.pinned.checked.prog Rows.topOrderRow.named (OpenSpec.ofChange Rows.topOrderSpec).bare.vars) = true := by kernel_rfl
theorem k5 : ((Rows.topOrderRow.stops == [])) = true := by kernel_rfl
theorem k6 : ((Tryz.pinned.checked.prog.stops == [])) = true := by kernel_rfl
theorem k7 : ((Rows.topOrderRow.knobs == [])) = true := by kernel_rfl
theorem k8 : ((Tryz.pinned.checked.prog.stopKnobs == [])) = true := by kernel_rfl
theorem k9 : ((Rows.topOrderRow.inPlace == Tryz.pinned.checked.prog.inPlace 3)) = true := by kernel_rfl
theorem k10 : ((Rows.topOrderRow.unfollowed == Tryz.pinned.checked.prog.unfollowed 3)) = true := by kernel_rfl
end Go.Proofs.YtkbfegaomhkmaaaGreatDoor.topOrder
