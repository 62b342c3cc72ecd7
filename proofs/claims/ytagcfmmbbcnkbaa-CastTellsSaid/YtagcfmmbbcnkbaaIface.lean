/- Helps of our own: type assertions to a type that is no interface. -/
import Derived.WalkKit
set_option linter.all false
namespace Go.Hub
open Go.RowKit
section
variable {P : Program} {a : TypeId} {z : Value}
theorem ta_yes {fs : Array Field} (hu : P.underlying a = some (.struct fs)) (x : TypeId) (v : Value) (b : Bool) (w : World) : (Instr.typeAssert (.iface a v) x a b).run P w = .ok (if b = true then .tuple #[v, .bool true] else v) w := by
  cases b <;> simp [Instr.typeAssert, run_underlying hu]
theorem ta_no {fs : Array Field} (hu : P.underlying a = some (.struct fs)) (hz : ∀ w, (zeroValue a).run P w = .ok z w) (x t : TypeId) (v : Value) (w : World) (h : t ≠ a) : (Instr.typeAssert (.iface t v) x a true).run P w = .ok (.tuple #[z, .bool false]) w := by
  simp [Instr.typeAssert, run_underlying hu, h, hz]
theorem ta_nil {fs : Array Field} (hu : P.underlying a = some (.struct fs)) (hz : ∀ w, (zeroValue a).run P w = .ok z w) (x : TypeId) (w : World) : (Instr.typeAssert .nilIface x a true).run P w = .ok (.tuple #[z, .bool false]) w := by
  simp [Instr.typeAssert, run_underlying hu, hz]
end
end Go.Hub
