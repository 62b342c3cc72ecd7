/- Helps of our own: results in a cell and two slots. -/
import Derived.Test.YtmffkpcimddbpaaMem
set_option linter.all false
namespace Go.Hub
open Go.RowKit
theorem results_cell_tmp2 {fn : Func} {p u u2 : Nat} {ty : TypeId} (h : fn.results = #[.cell p ty, .tmp u, .tmp u2]) (tmps : Array Value) (P : Program) (w : World) :
    (results fn tmps).run P w =
      ((asAddr (tmps.getD p undef)).run P w).andThen fun a w₁ => ((loadVar ty a).run P w₁).andThen fun v w₂ => .ok (.tuple #[v, tmps.getD u undef, tmps.getD u2 undef]) w₂ := by
  simp only [results, h]
  simp [Sem.run_bind, Result.andThen]
section
variable {P : Program} {fn : Func} {R : Ending → World → Prop} {a : Act} {w : World} {p u u2 ty : Nat}
theorem ret_cell_tmp2 (h : fn.results = #[.cell p ty, .tmp u, .tmp u2]) {g : Nat} {cs : Array Value} {t : TypeId} {v v2 : Value} (d : TypeDesc) (hp : a.tmps.getD p undef = .pointer (some ⟨g, 0, none⟩)) (hv : a.tmps.getD u undef = v) (hv2 : a.tmps.getD u2 undef = v2) (hg : Blk w g t cs)
    (hu : P.underlying ty = some d) (hd : (match d with | .struct _ | .array _ _ => true | _ => false) = true) (hi : (P.info? ty).map (·.size) = some cs.size) (hdef : a.defers = [])
    (hR : R (.returned (.tuple #[.agg cs, v, v2])) w) : bodyPost P fn R .ret a w := by
  refine bodyPost_ret (v := .tuple #[.agg cs, v, v2]) ?_ hdef hR
  have hl := run_loadVar_row (P := P) w g t ty cs (0, 0) d hg hu hd hi
  rw [results_cell_tmp2 h, hp, hv, hv2]
  simp [asAddr, Result.andThen, hl]
end
end Go.Hub
