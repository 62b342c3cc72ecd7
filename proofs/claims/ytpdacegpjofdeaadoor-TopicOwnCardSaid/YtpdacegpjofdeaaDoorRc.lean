/- The step library: results that lie in a cell. -/
import Derived.Test.YtpdacegpjofdeaaDoorMp
set_option linter.all false
namespace Go.Hub
open Go.RowKit
section
variable {P : Program} {a : Act} {w : World} {n : Nat} {l : FL} {fn : Func} {R : Ending → World → Prop}
theorem C.retC (f : Fr n a l) {p : Tmp} {ty : TypeId} (hr : fn.results = #[.cell p ty]) {g : Nat} {cs : Array Value} {t : TypeId} {d : TypeDesc} (hp : look l p = some (.pointer (some ⟨g, 0, none⟩))) (B : Blk w g t cs)
    (hu : P.underlying ty = some d) (hd : (match d with | .struct _ | .array _ _ => true | _ => false) = true) (hi : (P.info? ty).map (·.size) = some cs.size) (h : R (.returned (.agg cs)) w) : bodyPost P fn R .ret a w :=
  ret_cell hr d (f.get hp) B hu hd hi f.defers h
theorem C.retCT (f : Fr n a l) {p u : Tmp} {ty : TypeId} (hr : fn.results = #[.cell p ty, .tmp u]) {g : Nat} {cs : Array Value} {t : TypeId} {d : TypeDesc} {v : Value} (hp : look l p = some (.pointer (some ⟨g, 0, none⟩))) (hv : look l u = some v) (B : Blk w g t cs)
    (hu : P.underlying ty = some d) (hd : (match d with | .struct _ | .array _ _ => true | _ => false) = true) (hi : (P.info? ty).map (·.size) = some cs.size) (h : R (.returned (.tuple #[.agg cs, v])) w) : bodyPost P fn R .ret a w :=
  ret_cell_tmp hr d (f.get hp) (f.get hv) B hu hd hi f.defers h
end
end Go.Hub
