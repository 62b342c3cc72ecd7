/- Closed facts of the row of TopOrder, a part. -/
import Derived.Test.YtkbfegaomhkmaaaGreatDoorCards
import Derived.JoinedCond
import Derived.KernelRfl
set_option linter.all false
set_option maxRecDepth 100000
namespace Go.Proofs.YtkbfegaomhkmaaaGreatDoor.topOrder
open Go
theorem k11 : ((Rows.topOrderRow.recurses == Tryz.pinned.checked.prog.recurses 3)) = true := by kernel_rfl
theorem k12 : ((Rows.topOrderRow.named == Tryz.pinned.checked.prog.varsNamed 3)) = true := by kernel_rfl
theorem k13 : ((Rows.topOrderRow.maps == (Tryz.f3.params.toList ++ (OpenSpec.ofChange Rows.topOrderSpec).bare.plain.varTypes Tryz.pinned.checked.prog).any (Tryz.pinned.checked.prog.mapsRec ·))) = true := by kernel_rfl
theorem k14 : ((Rows.topOrderRow.ifaces == (Tryz.f3.params.toList ++ (OpenSpec.ofChange Rows.topOrderSpec).bare.plain.varTypes Tryz.pinned.checked.prog).any (Tryz.pinned.checked.prog.ifacesRec ·))) = true := by kernel_rfl
theorem k15 : ((Rows.topOrderRow.mapsOut == Tryz.pinned.checked.prog.mapsAmong Tryz.f3.resultTypes.toList)) = true := by kernel_rfl
theorem k16 : ((Rows.topOrderRow.loops == (Tryz.f3.params.toList ++ (OpenSpec.ofChange Rows.topOrderSpec).bare.plain.varTypes Tryz.pinned.checked.prog).any (Tryz.pinned.checked.prog.loopsFrom ·))) = true := by kernel_rfl
theorem k17 : ((Rows.topOrderRow.wideKeys == (Tryz.f3.params.toList ++ (OpenSpec.ofChange Rows.topOrderSpec).bare.plain.varTypes Tryz.pinned.checked.prog ++ Tryz.f3.resultTypes.toList).any (Tryz.pinned.checked.prog.wideKeysFrom ·))) = true := by kernel_rfl
theorem k18 : ((OpenSpec.ofChange Rows.topOrderSpec).bare.vars.all (Tryz.pinned.checked.prog.varReadable ·)) = true := by kernel_rfl
theorem k19 : (Tryz.f3.resultTypes.all (fun t => Tryz.pinned.checked.prog.readableRec t && decide (t < Tryz.pinned.checked.prog.types.size))) = true := by kernel_rfl
theorem k20 : ((Rows.topOrderRow.ifacesOut == Tryz.f3.resultTypes.toList.any (Tryz.pinned.checked.prog.ifacesRec ·))) = true := by kernel_rfl
theorem k21 : ((Rows.topOrderRow.loopsOut == Tryz.f3.resultTypes.toList.any (Tryz.pinned.checked.prog.loopsFrom ·))) = true := by kernel_rfl
theorem k22 : ((Rows.topOrderRow.plainKeys == Tryz.pinned.checked.prog.plainKeys)) = true := by kernel_rfl
theorem k23 : (Rows.topOrderRow.shortTexts.isNone) = true := by kernel_rfl
end Go.Proofs.YtkbfegaomhkmaaaGreatDoor.topOrder
