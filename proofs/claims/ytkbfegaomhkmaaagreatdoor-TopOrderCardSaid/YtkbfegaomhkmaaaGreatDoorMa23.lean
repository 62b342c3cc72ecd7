/- Closed facts of the row of TopOrder, a part. -/
import Derived.Test.YtkbfegaomhkmaaaGreatDoorCards
import Derived.JoinedCond
import Derived.KernelRfl
set_option linter.all false
set_option maxRecDepth 100000
namespace Go.Proofs.YtkbfegaomhkmaaaGreatDoor.topOrder
open Go
theorem goes_each {P : Program} (h : P.funcs.toList.any Func.goes = false) (g : Nat) : (P.funcs[g]?).any Func.goes = false := by
  cases hg : P.funcs[g]? with
  | none => rfl
  | some fn =>
    have hm : fn ∈ P.funcs.toList := Array.mem_toList_iff.2 (Array.mem_of_getElem? hg)
    have := List.any_eq_false.1 h fn hm
    simpa using this
theorem goes_none {P : Program} (h : P.funcs.toList.any Func.goes = false) (f : Nat) : P.goes f = false := by
  unfold Program.goes
  have h1 : P.funcs.any Func.goes = false := by rw [← Array.any_toList]; exact h
  simp [goes_each h, h1]
theorem goesBy_none {P : Program} (h : P.funcs.toList.any Func.goes = false) (c : OpenClaim) : false = c.goesBy P := by
  unfold OpenClaim.goesBy Program.goesAt Program.goesFrom
  cases P.funcNamed c.func <;> cases c.start <;> simp [goes_none h]
theorem g3c : Tryz.pinned.checked.prog.funcs.toList.any Func.goes = false := by kernel_rfl
theorem g3 : false = Rows.topOrderRow.goesBy Tryz.pinned.checked.prog := goesBy_none g3c _
end Go.Proofs.YtkbfegaomhkmaaaGreatDoor.topOrder
