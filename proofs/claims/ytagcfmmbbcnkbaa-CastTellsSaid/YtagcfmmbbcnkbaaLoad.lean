/- Helps of our own: a load whose cell is known, in whatever spelling. -/
import Derived.Test.YtagcfmmbbcnkbaaMem
set_option linter.all false
namespace Go.Hub
open Go.RowKit
section
variable {P : Program}
theorem wp_load_cell {o : Oper} {a : Act} {w : World} {K : Act → World → Prop} {Q : Exit → Act → World → Prop} (ty : TypeId) (x : Operand) (ho : o.op = .load ty x)
    (p : Addr) (hx : a.eval x = .pointer (some p)) (v : Value) (hc : w.cell? p = some v) (hagg : (isAgg ty).run P w = .ok false w)
    (h : K (a.put o.dst v) w) : o.wp P a w K Q := by
  unfold Oper.wp execOp
  simp only [ho, hx, Instr.loadAt, Instr.sureAddr, Sem.run_bind, Sem.run_pure, Result.andThen_ok, loadVar, hagg]
  simp [run_load, hc, Result.andThen]
  exact h
theorem wpList_load_cell {ops : Array Oper} {rest : List Oper} {o : Oper} {a : Act} {w : World} {Q : Exit → Act → World → Prop} (hgd : o.guard = none) (ty : TypeId) (x : Operand) (ho : o.op = .load ty x)
    (p : Addr) (hx : a.eval x = .pointer (some p)) (v : Value) (hc : w.cell? p = some v) (hagg : (isAgg ty).run P w = .ok false w)
    (h : wpList P ops Q rest (a.put o.dst v) w) : wpList P ops Q (o :: rest) a w :=
  wpList_plain hgd fun _ hK => wp_load_cell ty x ho p hx v hc hagg (hK _ _ h)
end
end Go.Hub
