/- Closed facts of the row of TopOrder, a part. -/
import Derived.Test.YtkbfegaomhkmaaaGreatDoorCards
import Derived.JoinedCond
import Derived.KernelRfl
set_option linter.all false
set_option maxRecDepth 100000
namespace Go.Proofs.YtkbfegaomhkmaaaGreatDoor.topOrder
open Go
theorem k26 : ((Rows.topOrderRow.lifted == Tryz.pinned.checked.prog.liftsFinal)) = true := by kernel_rfl
theorem k27 : ((Tryz.pinned.checked.prog.make == some Rows.topOrderRow.make)) = true := by kernel_rfl
theorem k28 : ((Rows.topOrderRow.kinds == (if Rows.topOrderRow.domain.isEmpty then [] else Tryz.f3.params.toList.map fun t => match Tryz.pinned.checked.prog.underlying t with | some (.int k) => some k | _ => none))) = true := by kernel_rfl
theorem k29 : ((Rows.topOrderRow.pinned == Rows.topOrderRow.pinnedBy)) = true := by kernel_rfl
theorem k30 : ((Rows.topOrderRow.veiled == (Tryz.f3.params.toList ++ (OpenSpec.ofChange Rows.topOrderSpec).bare.plain.varTypes Tryz.pinned.checked.prog ++ Tryz.f3.resultTypes.toList).any (Tryz.pinned.checked.prog.veiledRec ·))) = true := by kernel_rfl
theorem k31 : (Rows.topOrderRow.veiledFits Tryz.pinned.checked.prog Tryz.f3.params.toList (Tryz.f3.params.toList ++ (OpenSpec.ofChange Rows.topOrderSpec).bare.plain.varTypes Tryz.pinned.checked.prog ++ Tryz.f3.resultTypes.toList)) = true := by kernel_rfl
theorem g1 : Rows.topOrderRow.wfByText (OpenSpec.ofChange Rows.topOrderSpec) = true := by kernel_rfl
theorem g2 : Tryz.pinned.checked.prog.mainIs = some (true, "1942eb72135182c72adf735fbc76e8448dd7a67005c1b6dc77d8ffdb98a4008c".toList) := by kernel_rfl
end Go.Proofs.YtkbfegaomhkmaaaGreatDoor.topOrder
