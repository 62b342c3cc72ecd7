/- Helps of our own: a packet's fields stored one by one; a struct built of some of its fields. -/
import Derived.Test.YtagcfmmbbcnkbaaSeat
set_option linter.all false
namespace Go.Hub
open Go.RowKit
section
variable (p : Pk) (s : Ad)
theorem Pk.set1 (v : Bool) : (p.cells s).setIfInBounds 1 (.bool v) = Pk.cells { p with dup := v } s := by simp [Pk.cells]
theorem Pk.set4 (v : Int) : (p.cells s).setIfInBounds 4 (.int .i64 v) = Pk.cells { p with id := v } s := by simp [Pk.cells]
theorem Pk.set7 (v : Int) : (p.cells s).setIfInBounds 7 (.int .i64 v) = Pk.cells { p with level := v } s := by simp [Pk.cells]
theorem Pk.set9 (v : Bool) : (p.cells s).setIfInBounds 9 (.bool v) = Pk.cells { p with clean := v } s := by simp [Pk.cells]
theorem Pk.setW (h : Bool) (t : ByteArray) (x : List UInt8) (A : Option Addr) (c : Nat) (q : Int) (r : Bool) :
    (((((p.cells s).setIfInBounds 11 (.bool h)).setIfInBounds 12 (.string t)).setIfInBounds 13 (.slice A x.length c)).setIfInBounds 14 (.int .i64 q)).setIfInBounds 15 (.bool r) = Pk.cells { p with hasWill := h, wt := t, wp := x, wq := q, wr := r } { s with wa := A, wc := c } := by simp [Pk.cells]
theorem Pk.setU (h h2 : Bool) (t : ByteArray) (x : List UInt8) (A : Option Addr) (c : Nat) :
    ((((p.cells s).setIfInBounds 16 (.bool h)).setIfInBounds 18 (.string t)).setIfInBounds 17 (.bool h2)).setIfInBounds 19 (.slice A x.length c) = Pk.cells { p with hasUser := h, user := t, hasPass := h2, pass := x } { s with sa := A, sc := c } := by simp [Pk.cells]
end
/-- a struct of some of its fields -/
theorem wpList_build_any {P : Program} {ops : Array Oper} {rest : List Oper} {o : Oper} {a : Act} {w : World} {Q : Exit → Act → World → Prop} (hg : o.guard = none) (t : TypeId) (xs : Array (Nat × Operand)) (ho : o.op = .build t xs) (vs : List (Nat × Value)) (hx : (xs.toList.map fun (i, x) => (i, a.eval x)) = vs)
    (cs : Array Value) (hb : P.built t vs = some cs) (h : wpList P ops Q rest (a.put o.dst (.agg cs)) w) : wpList P ops Q (o :: rest) a w := by
  have e : (P.built t (xs.map fun (i, x) => (i, a.eval x)).toList) = some cs := by rw [Array.toList_map, hx]; exact hb
  refine wpList_build hg t xs ho (by rw [e]; rfl) ?_
  rw [e]
  exact h
end Go.Hub
