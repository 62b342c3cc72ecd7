/- The step library, part 3: operations on blocks that are known; calls. -/
import Derived.Test.YtpdacegpjofdeaaDoorSt2
set_option linter.all false
namespace Go.Hub
open Go.RowKit

theorem wantedN {ops : Array Oper} {a : Act} {dst : Option Nat} {op : Op} {ty : TypeId} {ps : String} {af : Array Edge} : Region.wanted ⟨dst, op, ty, ps, af, none⟩ (yielded ops a.tmps) = true := rfl
theorem Fr.yes {n : Nat} {a : Act} {l : FL} {ops : Array Oper} (f : Fr n a l) {j dj : Nat} {b : Bool} {dst : Option Nat} {op : Op} {ty : TypeId} {ps : String} {af : Array Edge} (hj : (ops[j]?).bind (·.dst) = some dj) (hb : look l dj = some (.bool b)) :
    Region.wanted ⟨dst, op, ty, ps, af, some (j, b)⟩ (yielded ops a.tmps) = true := by simp [Region.wanted, f.yield hj hb]
theorem Fr.noT {n : Nat} {a : Act} {l : FL} {ops : Array Oper} (f : Fr n a l) {j dj : Nat} {dst : Option Nat} {op : Op} {ty : TypeId} {ps : String} {af : Array Edge} (hj : (ops[j]?).bind (·.dst) = some dj) (hb : look l dj = some (.bool false)) :
    Region.wanted ⟨dst, op, ty, ps, af, some (j, true)⟩ (yielded ops a.tmps) = false := by simp [Region.wanted, f.yield hj hb]
theorem Fr.noU {n : Nat} {a : Act} {l : FL} {ops : Array Oper} (f : Fr n a l) {j dj : Nat} {b : Bool} {dst : Option Nat} {op : Op} {ty : TypeId} {ps : String} {af : Array Edge} (hj : (ops[j]?).bind (·.dst) = some dj) (hb : look l dj = some undef) :
    Region.wanted ⟨dst, op, ty, ps, af, some (j, b)⟩ (yielded ops a.tmps) = false := by
  have hy : yielded ops a.tmps j = none := by
    unfold yielded
    rw [hj]
    simp [f.slot dj _ hb, undef]
  simp [Region.wanted, hy]
theorem Fr.noF {n : Nat} {a : Act} {l : FL} {ops : Array Oper} (f : Fr n a l) {j dj : Nat} {dst : Option Nat} {op : Op} {ty : TypeId} {ps : String} {af : Array Edge} (hj : (ops[j]?).bind (·.dst) = some dj) (hb : look l dj = some (.bool true)) :
    Region.wanted ⟨dst, op, ty, ps, af, some (j, false)⟩ (yielded ops a.tmps) = false := by simp [Region.wanted, f.yield hj hb]

theorem run_callV {P : Program} {a : Act} {w : World} {n : Nat} {l : FL} {fn : Nat} {x : Operand} {xs : Array Operand} {ats : Array TypeId} {dst : Option Nat} {ty : TypeId} {ps : String} {af : Array Edge} {g : Option (Nat × Bool)} {args cap : Array Value}
    (f : Fr n a l) (hf : evl l x = some (.func (.func fn) #[] cap)) (hc : ∀ args w, (callFunc fn args).run P w = .ok (.enter fn args) w) (hx : xs.map a.eval = args) :
    (execOp a.eval ⟨dst, .call { callee := .value x, args := xs, argTypes := ats }, ty, ps, af, g⟩).run P w = .ok (.enter fn (args ++ cap)) w := by
  simp [execOp, resolve, f.ev hf, Deferred.ofValue, invoke, hx, hc]
theorem cv0_0 {P : Program} {a : Act} {w : World} {n : Nat} {l : FL} {fn : Nat} {x : Operand} {ats : Array TypeId} {dst : Option Nat} {ty : TypeId} {ps : String} {af : Array Edge} {g : Option (Nat × Bool)} (f : Fr n a l) (hf : evl l x = some (.func (.func fn) #[] #[])) (hc : ∀ args w, (callFunc fn args).run P w = .ok (.enter fn args) w) :
    (execOp a.eval ⟨dst, .call { callee := .value x, args := #[], argTypes := ats }, ty, ps, af, g⟩).run P w = .ok (.enter fn #[]) w := by
  have := run_callV (dst := dst) (ats := ats) (ty := ty) (ps := ps) (af := af) (g := g) (w := w) (xs := #[]) f hf hc rfl
  simpa [] using this
theorem cv0_1 {P : Program} {a : Act} {w : World} {n : Nat} {l : FL} {fn : Nat} {x : Operand} {ats : Array TypeId} {dst : Option Nat} {ty : TypeId} {ps : String} {af : Array Edge} {g : Option (Nat × Bool)} {c0 : Value} (f : Fr n a l) (hf : evl l x = some (.func (.func fn) #[] #[c0])) (hc : ∀ args w, (callFunc fn args).run P w = .ok (.enter fn args) w) :
    (execOp a.eval ⟨dst, .call { callee := .value x, args := #[], argTypes := ats }, ty, ps, af, g⟩).run P w = .ok (.enter fn #[c0]) w := by
  have := run_callV (dst := dst) (ats := ats) (ty := ty) (ps := ps) (af := af) (g := g) (w := w) (xs := #[]) f hf hc rfl
  simpa [] using this
theorem cv0_2 {P : Program} {a : Act} {w : World} {n : Nat} {l : FL} {fn : Nat} {x : Operand} {ats : Array TypeId} {dst : Option Nat} {ty : TypeId} {ps : String} {af : Array Edge} {g : Option (Nat × Bool)} {c0 c1 : Value} (f : Fr n a l) (hf : evl l x = some (.func (.func fn) #[] #[c0, c1])) (hc : ∀ args w, (callFunc fn args).run P w = .ok (.enter fn args) w) :
    (execOp a.eval ⟨dst, .call { callee := .value x, args := #[], argTypes := ats }, ty, ps, af, g⟩).run P w = .ok (.enter fn #[c0, c1]) w := by
  have := run_callV (dst := dst) (ats := ats) (ty := ty) (ps := ps) (af := af) (g := g) (w := w) (xs := #[]) f hf hc rfl
  simpa [] using this
theorem cv0_3 {P : Program} {a : Act} {w : World} {n : Nat} {l : FL} {fn : Nat} {x : Operand} {ats : Array TypeId} {dst : Option Nat} {ty : TypeId} {ps : String} {af : Array Edge} {g : Option (Nat × Bool)} {c0 c1 c2 : Value} (f : Fr n a l) (hf : evl l x = some (.func (.func fn) #[] #[c0, c1, c2])) (hc : ∀ args w, (callFunc fn args).run P w = .ok (.enter fn args) w) :
    (execOp a.eval ⟨dst, .call { callee := .value x, args := #[], argTypes := ats }, ty, ps, af, g⟩).run P w = .ok (.enter fn #[c0, c1, c2]) w := by
  have := run_callV (dst := dst) (ats := ats) (ty := ty) (ps := ps) (af := af) (g := g) (w := w) (xs := #[]) f hf hc rfl
  simpa [] using this
theorem cv1_0 {P : Program} {a : Act} {w : World} {n : Nat} {l : FL} {fn : Nat} {x : Operand} {ats : Array TypeId} {dst : Option Nat} {ty : TypeId} {ps : String} {af : Array Edge} {g : Option (Nat × Bool)} {x0 : Operand} {v0 : Value} (f : Fr n a l) (hf : evl l x = some (.func (.func fn) #[] #[])) (hc : ∀ args w, (callFunc fn args).run P w = .ok (.enter fn args) w) (h0 : evl l x0 = some v0) :
    (execOp a.eval ⟨dst, .call { callee := .value x, args := #[x0], argTypes := ats }, ty, ps, af, g⟩).run P w = .ok (.enter fn #[v0]) w := by
  have := run_callV (dst := dst) (ats := ats) (ty := ty) (ps := ps) (af := af) (g := g) (w := w) (xs := #[x0]) f hf hc rfl
  simpa [f.ev h0] using this
theorem cv1_1 {P : Program} {a : Act} {w : World} {n : Nat} {l : FL} {fn : Nat} {x : Operand} {ats : Array TypeId} {dst : Option Nat} {ty : TypeId} {ps : String} {af : Array Edge} {g : Option (Nat × Bool)} {x0 : Operand} {v0 : Value} {c0 : Value} (f : Fr n a l) (hf : evl l x = some (.func (.func fn) #[] #[c0])) (hc : ∀ args w, (callFunc fn args).run P w = .ok (.enter fn args) w) (h0 : evl l x0 = some v0) :
    (execOp a.eval ⟨dst, .call { callee := .value x, args := #[x0], argTypes := ats }, ty, ps, af, g⟩).run P w = .ok (.enter fn #[v0, c0]) w := by
  have := run_callV (dst := dst) (ats := ats) (ty := ty) (ps := ps) (af := af) (g := g) (w := w) (xs := #[x0]) f hf hc rfl
  simpa [f.ev h0] using this
theorem cv1_2 {P : Program} {a : Act} {w : World} {n : Nat} {l : FL} {fn : Nat} {x : Operand} {ats : Array TypeId} {dst : Option Nat} {ty : TypeId} {ps : String} {af : Array Edge} {g : Option (Nat × Bool)} {x0 : Operand} {v0 : Value} {c0 c1 : Value} (f : Fr n a l) (hf : evl l x = some (.func (.func fn) #[] #[c0, c1])) (hc : ∀ args w, (callFunc fn args).run P w = .ok (.enter fn args) w) (h0 : evl l x0 = some v0) :
    (execOp a.eval ⟨dst, .call { callee := .value x, args := #[x0], argTypes := ats }, ty, ps, af, g⟩).run P w = .ok (.enter fn #[v0, c0, c1]) w := by
  have := run_callV (dst := dst) (ats := ats) (ty := ty) (ps := ps) (af := af) (g := g) (w := w) (xs := #[x0]) f hf hc rfl
  simpa [f.ev h0] using this
theorem cv1_3 {P : Program} {a : Act} {w : World} {n : Nat} {l : FL} {fn : Nat} {x : Operand} {ats : Array TypeId} {dst : Option Nat} {ty : TypeId} {ps : String} {af : Array Edge} {g : Option (Nat × Bool)} {x0 : Operand} {v0 : Value} {c0 c1 c2 : Value} (f : Fr n a l) (hf : evl l x = some (.func (.func fn) #[] #[c0, c1, c2])) (hc : ∀ args w, (callFunc fn args).run P w = .ok (.enter fn args) w) (h0 : evl l x0 = some v0) :
    (execOp a.eval ⟨dst, .call { callee := .value x, args := #[x0], argTypes := ats }, ty, ps, af, g⟩).run P w = .ok (.enter fn #[v0, c0, c1, c2]) w := by
  have := run_callV (dst := dst) (ats := ats) (ty := ty) (ps := ps) (af := af) (g := g) (w := w) (xs := #[x0]) f hf hc rfl
  simpa [f.ev h0] using this
theorem cv2_0 {P : Program} {a : Act} {w : World} {n : Nat} {l : FL} {fn : Nat} {x : Operand} {ats : Array TypeId} {dst : Option Nat} {ty : TypeId} {ps : String} {af : Array Edge} {g : Option (Nat × Bool)} {x0 x1 : Operand} {v0 v1 : Value} (f : Fr n a l) (hf : evl l x = some (.func (.func fn) #[] #[])) (hc : ∀ args w, (callFunc fn args).run P w = .ok (.enter fn args) w) (h0 : evl l x0 = some v0) (h1 : evl l x1 = some v1) :
    (execOp a.eval ⟨dst, .call { callee := .value x, args := #[x0, x1], argTypes := ats }, ty, ps, af, g⟩).run P w = .ok (.enter fn #[v0, v1]) w := by
  have := run_callV (dst := dst) (ats := ats) (ty := ty) (ps := ps) (af := af) (g := g) (w := w) (xs := #[x0, x1]) f hf hc rfl
  simpa [f.ev h0, f.ev h1] using this
theorem cv2_1 {P : Program} {a : Act} {w : World} {n : Nat} {l : FL} {fn : Nat} {x : Operand} {ats : Array TypeId} {dst : Option Nat} {ty : TypeId} {ps : String} {af : Array Edge} {g : Option (Nat × Bool)} {x0 x1 : Operand} {v0 v1 : Value} {c0 : Value} (f : Fr n a l) (hf : evl l x = some (.func (.func fn) #[] #[c0])) (hc : ∀ args w, (callFunc fn args).run P w = .ok (.enter fn args) w) (h0 : evl l x0 = some v0) (h1 : evl l x1 = some v1) :
    (execOp a.eval ⟨dst, .call { callee := .value x, args := #[x0, x1], argTypes := ats }, ty, ps, af, g⟩).run P w = .ok (.enter fn #[v0, v1, c0]) w := by
  have := run_callV (dst := dst) (ats := ats) (ty := ty) (ps := ps) (af := af) (g := g) (w := w) (xs := #[x0, x1]) f hf hc rfl
  simpa [f.ev h0, f.ev h1] using this
theorem cv2_2 {P : Program} {a : Act} {w : World} {n : Nat} {l : FL} {fn : Nat} {x : Operand} {ats : Array TypeId} {dst : Option Nat} {ty : TypeId} {ps : String} {af : Array Edge} {g : Option (Nat × Bool)} {x0 x1 : Operand} {v0 v1 : Value} {c0 c1 : Value} (f : Fr n a l) (hf : evl l x = some (.func (.func fn) #[] #[c0, c1])) (hc : ∀ args w, (callFunc fn args).run P w = .ok (.enter fn args) w) (h0 : evl l x0 = some v0) (h1 : evl l x1 = some v1) :
    (execOp a.eval ⟨dst, .call { callee := .value x, args := #[x0, x1], argTypes := ats }, ty, ps, af, g⟩).run P w = .ok (.enter fn #[v0, v1, c0, c1]) w := by
  have := run_callV (dst := dst) (ats := ats) (ty := ty) (ps := ps) (af := af) (g := g) (w := w) (xs := #[x0, x1]) f hf hc rfl
  simpa [f.ev h0, f.ev h1] using this
theorem cv2_3 {P : Program} {a : Act} {w : World} {n : Nat} {l : FL} {fn : Nat} {x : Operand} {ats : Array TypeId} {dst : Option Nat} {ty : TypeId} {ps : String} {af : Array Edge} {g : Option (Nat × Bool)} {x0 x1 : Operand} {v0 v1 : Value} {c0 c1 c2 : Value} (f : Fr n a l) (hf : evl l x = some (.func (.func fn) #[] #[c0, c1, c2])) (hc : ∀ args w, (callFunc fn args).run P w = .ok (.enter fn args) w) (h0 : evl l x0 = some v0) (h1 : evl l x1 = some v1) :
    (execOp a.eval ⟨dst, .call { callee := .value x, args := #[x0, x1], argTypes := ats }, ty, ps, af, g⟩).run P w = .ok (.enter fn #[v0, v1, c0, c1, c2]) w := by
  have := run_callV (dst := dst) (ats := ats) (ty := ty) (ps := ps) (af := af) (g := g) (w := w) (xs := #[x0, x1]) f hf hc rfl
  simpa [f.ev h0, f.ev h1] using this
theorem cv3_0 {P : Program} {a : Act} {w : World} {n : Nat} {l : FL} {fn : Nat} {x : Operand} {ats : Array TypeId} {dst : Option Nat} {ty : TypeId} {ps : String} {af : Array Edge} {g : Option (Nat × Bool)} {x0 x1 x2 : Operand} {v0 v1 v2 : Value} (f : Fr n a l) (hf : evl l x = some (.func (.func fn) #[] #[])) (hc : ∀ args w, (callFunc fn args).run P w = .ok (.enter fn args) w) (h0 : evl l x0 = some v0) (h1 : evl l x1 = some v1) (h2 : evl l x2 = some v2) :
    (execOp a.eval ⟨dst, .call { callee := .value x, args := #[x0, x1, x2], argTypes := ats }, ty, ps, af, g⟩).run P w = .ok (.enter fn #[v0, v1, v2]) w := by
  have := run_callV (dst := dst) (ats := ats) (ty := ty) (ps := ps) (af := af) (g := g) (w := w) (xs := #[x0, x1, x2]) f hf hc rfl
  simpa [f.ev h0, f.ev h1, f.ev h2] using this
theorem cv3_1 {P : Program} {a : Act} {w : World} {n : Nat} {l : FL} {fn : Nat} {x : Operand} {ats : Array TypeId} {dst : Option Nat} {ty : TypeId} {ps : String} {af : Array Edge} {g : Option (Nat × Bool)} {x0 x1 x2 : Operand} {v0 v1 v2 : Value} {c0 : Value} (f : Fr n a l) (hf : evl l x = some (.func (.func fn) #[] #[c0])) (hc : ∀ args w, (callFunc fn args).run P w = .ok (.enter fn args) w) (h0 : evl l x0 = some v0) (h1 : evl l x1 = some v1) (h2 : evl l x2 = some v2) :
    (execOp a.eval ⟨dst, .call { callee := .value x, args := #[x0, x1, x2], argTypes := ats }, ty, ps, af, g⟩).run P w = .ok (.enter fn #[v0, v1, v2, c0]) w := by
  have := run_callV (dst := dst) (ats := ats) (ty := ty) (ps := ps) (af := af) (g := g) (w := w) (xs := #[x0, x1, x2]) f hf hc rfl
  simpa [f.ev h0, f.ev h1, f.ev h2] using this
theorem cv3_2 {P : Program} {a : Act} {w : World} {n : Nat} {l : FL} {fn : Nat} {x : Operand} {ats : Array TypeId} {dst : Option Nat} {ty : TypeId} {ps : String} {af : Array Edge} {g : Option (Nat × Bool)} {x0 x1 x2 : Operand} {v0 v1 v2 : Value} {c0 c1 : Value} (f : Fr n a l) (hf : evl l x = some (.func (.func fn) #[] #[c0, c1])) (hc : ∀ args w, (callFunc fn args).run P w = .ok (.enter fn args) w) (h0 : evl l x0 = some v0) (h1 : evl l x1 = some v1) (h2 : evl l x2 = some v2) :
    (execOp a.eval ⟨dst, .call { callee := .value x, args := #[x0, x1, x2], argTypes := ats }, ty, ps, af, g⟩).run P w = .ok (.enter fn #[v0, v1, v2, c0, c1]) w := by
  have := run_callV (dst := dst) (ats := ats) (ty := ty) (ps := ps) (af := af) (g := g) (w := w) (xs := #[x0, x1, x2]) f hf hc rfl
  simpa [f.ev h0, f.ev h1, f.ev h2] using this
theorem cv3_3 {P : Program} {a : Act} {w : World} {n : Nat} {l : FL} {fn : Nat} {x : Operand} {ats : Array TypeId} {dst : Option Nat} {ty : TypeId} {ps : String} {af : Array Edge} {g : Option (Nat × Bool)} {x0 x1 x2 : Operand} {v0 v1 v2 : Value} {c0 c1 c2 : Value} (f : Fr n a l) (hf : evl l x = some (.func (.func fn) #[] #[c0, c1, c2])) (hc : ∀ args w, (callFunc fn args).run P w = .ok (.enter fn args) w) (h0 : evl l x0 = some v0) (h1 : evl l x1 = some v1) (h2 : evl l x2 = some v2) :
    (execOp a.eval ⟨dst, .call { callee := .value x, args := #[x0, x1, x2], argTypes := ats }, ty, ps, af, g⟩).run P w = .ok (.enter fn #[v0, v1, v2, c0, c1, c2]) w := by
  have := run_callV (dst := dst) (ats := ats) (ty := ty) (ps := ps) (af := af) (g := g) (w := w) (xs := #[x0, x1, x2]) f hf hc rfl
  simpa [f.ev h0, f.ev h1, f.ev h2] using this
theorem cv4_0 {P : Program} {a : Act} {w : World} {n : Nat} {l : FL} {fn : Nat} {x : Operand} {ats : Array TypeId} {dst : Option Nat} {ty : TypeId} {ps : String} {af : Array Edge} {g : Option (Nat × Bool)} {x0 x1 x2 x3 : Operand} {v0 v1 v2 v3 : Value} (f : Fr n a l) (hf : evl l x = some (.func (.func fn) #[] #[])) (hc : ∀ args w, (callFunc fn args).run P w = .ok (.enter fn args) w) (h0 : evl l x0 = some v0) (h1 : evl l x1 = some v1) (h2 : evl l x2 = some v2) (h3 : evl l x3 = some v3) :
    (execOp a.eval ⟨dst, .call { callee := .value x, args := #[x0, x1, x2, x3], argTypes := ats }, ty, ps, af, g⟩).run P w = .ok (.enter fn #[v0, v1, v2, v3]) w := by
  have := run_callV (dst := dst) (ats := ats) (ty := ty) (ps := ps) (af := af) (g := g) (w := w) (xs := #[x0, x1, x2, x3]) f hf hc rfl
  simpa [f.ev h0, f.ev h1, f.ev h2, f.ev h3] using this
theorem cv4_1 {P : Program} {a : Act} {w : World} {n : Nat} {l : FL} {fn : Nat} {x : Operand} {ats : Array TypeId} {dst : Option Nat} {ty : TypeId} {ps : String} {af : Array Edge} {g : Option (Nat × Bool)} {x0 x1 x2 x3 : Operand} {v0 v1 v2 v3 : Value} {c0 : Value} (f : Fr n a l) (hf : evl l x = some (.func (.func fn) #[] #[c0])) (hc : ∀ args w, (callFunc fn args).run P w = .ok (.enter fn args) w) (h0 : evl l x0 = some v0) (h1 : evl l x1 = some v1) (h2 : evl l x2 = some v2) (h3 : evl l x3 = some v3) :
    (execOp a.eval ⟨dst, .call { callee := .value x, args := #[x0, x1, x2, x3], argTypes := ats }, ty, ps, af, g⟩).run P w = .ok (.enter fn #[v0, v1, v2, v3, c0]) w := by
  have := run_callV (dst := dst) (ats := ats) (ty := ty) (ps := ps) (af := af) (g := g) (w := w) (xs := #[x0, x1, x2, x3]) f hf hc rfl
  simpa [f.ev h0, f.ev h1, f.ev h2, f.ev h3] using this
theorem cv4_2 {P : Program} {a : Act} {w : World} {n : Nat} {l : FL} {fn : Nat} {x : Operand} {ats : Array TypeId} {dst : Option Nat} {ty : TypeId} {ps : String} {af : Array Edge} {g : Option (Nat × Bool)} {x0 x1 x2 x3 : Operand} {v0 v1 v2 v3 : Value} {c0 c1 : Value} (f : Fr n a l) (hf : evl l x = some (.func (.func fn) #[] #[c0, c1])) (hc : ∀ args w, (callFunc fn args).run P w = .ok (.enter fn args) w) (h0 : evl l x0 = some v0) (h1 : evl l x1 = some v1) (h2 : evl l x2 = some v2) (h3 : evl l x3 = some v3) :
    (execOp a.eval ⟨dst, .call { callee := .value x, args := #[x0, x1, x2, x3], argTypes := ats }, ty, ps, af, g⟩).run P w = .ok (.enter fn #[v0, v1, v2, v3, c0, c1]) w := by
  have := run_callV (dst := dst) (ats := ats) (ty := ty) (ps := ps) (af := af) (g := g) (w := w) (xs := #[x0, x1, x2, x3]) f hf hc rfl
  simpa [f.ev h0, f.ev h1, f.ev h2, f.ev h3] using this
theorem cv4_3 {P : Program} {a : Act} {w : World} {n : Nat} {l : FL} {fn : Nat} {x : Operand} {ats : Array TypeId} {dst : Option Nat} {ty : TypeId} {ps : String} {af : Array Edge} {g : Option (Nat × Bool)} {x0 x1 x2 x3 : Operand} {v0 v1 v2 v3 : Value} {c0 c1 c2 : Value} (f : Fr n a l) (hf : evl l x = some (.func (.func fn) #[] #[c0, c1, c2])) (hc : ∀ args w, (callFunc fn args).run P w = .ok (.enter fn args) w) (h0 : evl l x0 = some v0) (h1 : evl l x1 = some v1) (h2 : evl l x2 = some v2) (h3 : evl l x3 = some v3) :
    (execOp a.eval ⟨dst, .call { callee := .value x, args := #[x0, x1, x2, x3], argTypes := ats }, ty, ps, af, g⟩).run P w = .ok (.enter fn #[v0, v1, v2, v3, c0, c1, c2]) w := by
  have := run_callV (dst := dst) (ats := ats) (ty := ty) (ps := ps) (af := af) (g := g) (w := w) (xs := #[x0, x1, x2, x3]) f hf hc rfl
  simpa [f.ev h0, f.ev h1, f.ev h2, f.ev h3] using this
section
variable {w w' : World} {g : Nat} {t : TypeId} {cs : Array Value} {L : List Nat}
theorem Blk.cl (h : Blk w g t cs) {i : Nat} {v : Value} (hv : cs.toList[i]? = some v) : w.cell? ⟨g, i, none⟩ = some v := h.cell_ (by simpa using hv)
theorem Blk.range (h : Blk w g t cs) : w.rangeAt g 0 cs.toList := fun j v hv => by
  rw [Nat.zero_add]
  exact h.cell_ (by simpa using hv)
theorem Blk.there (h : Blk w g t cs) {o n : Nat} (hn : o + n ≤ cs.size) : w.there g o n := fun j hj => by
  refine ⟨?_, h.frozen _⟩
  rw [h.cell]
  simp
  omega
/-- a new block -/
structure Newb (w w' : World) (g : Nat) (t : TypeId) (cs : Array Value) : Prop where
  blk : Blk w' g t cs
  kept : Kept [] w w'
  lo : w.heap.size ≤ g
theorem newb (w : World) (t : TypeId) (cs : Array Value) : Newb w (w.alloc (.cells cs t)) w.heap.size t cs := ⟨Blk.new w t cs, (Kept.refl [] w).alloc _, Nat.le_refl _⟩
theorem setCells_blk (h : Blk w g t cs) (cs' : Array Value) (hs : cs'.size = cs.size) : Blk (w.setCells g 0 cs'.toList) g t cs' := by
  obtain ⟨cur, h1, h2, h3, h4⟩ := setCells_block g cs'.toList 0 w cs t (0, 0) h
  have : cur = cs' := by
    apply Array.ext (by omega)
    intro i hi hi'
    have := h4 i cs'[i] (by simp [hi']) (by omega)
    rw [Nat.zero_add] at this
    rw [Array.getElem?_eq_getElem hi] at this
    simpa using this
  rw [this] at h1
  exact h1
theorem setCells_kept (w : World) (g o : Nat) (vs : List Value) : Kept [g] w (w.setCells g o vs) := by
  obtain ⟨b1, b2, b3, b4⟩ := setCells_facts g vs o w
  exact ⟨b1, b2, b3, by omega, fun k hk hn => setCells_other g _ _ w k (by simpa using hn)⟩
theorem setCell_kept (w : World) (g o : Nat) (v : Value) : Kept [g] w (w.setCell ⟨g, o, none⟩ v) := (Kept.refl [g] w).setCell (p := ⟨g, o, none⟩) (by simp) v
end

section
variable {P : Program} {ops : Array Oper} {rest : List Oper} {a : Act} {w : World} {Q : Exit → Act → World → Prop} {n d : Nat} {l : FL} {v : Value} {dst : Option Nat} {ty : TypeId} {ps : String} {af : Array Edge} {gd : Option (Nat × Bool)} {x y : Operand} {t : TypeId}
theorem L.alloc (f : Fr n a l) (hw : Region.wanted ⟨some d, .alloc t, ty, ps, af, gd⟩ (yielded ops a.tmps) = true) (hn : d < n) {z : Value} (hz : ∀ w, (zeroValue t).run P w = .ok z w) {cs : Array Value} (hcs : z.cells = cs)
    (hK : ∀ a' w' g, Newb w w' g t cs → Fr n a' ((d, .pointer (some ⟨g, 0, none⟩)) :: l) → wpList P ops Q rest a' w') : wpList P ops Q (⟨some d, .alloc t, ty, ps, af, gd⟩ :: rest) a w :=
  L.val f hw rfl hn (E.alloc f hz) fun a' f' => hK a' _ _ (hcs ▸ newb w t _) f'
theorem L.box (f : Fr n a l) (hw : Region.wanted ⟨some d, .box t x, ty, ps, af, gd⟩ (yielded ops a.tmps) = true) (hn : d < n) (hx : evl l x = some v) {cs : Array Value} (hcs : v.cells = cs)
    (hK : ∀ a' w' g, Newb w w' g t cs → Fr n a' ((d, .pointer (some ⟨g, 0, none⟩)) :: l) → wpList P ops Q rest a' w') : wpList P ops Q (⟨some d, .box t x, ty, ps, af, gd⟩ :: rest) a w :=
  L.val f hw rfl hn (E.box f hx) fun a' f' => hK a' _ _ (hcs ▸ newb w t _) f'
/-- a store into one cell of a known block -/
theorem L.store (f : Fr n a l) (hw : Region.wanted ⟨none, .store t x y, ty, ps, af, gd⟩ (yielded ops a.tmps) = true) (hi : (P.info? t).map (·.size) = some 1) {g o : Nat} {e : TypeId} {cs : Array Value} (hx : evl l x = some (.pointer (some ⟨g, o, none⟩))) (hy : evl l y = some v) (h1 : v.oneCell' = true)
    (B : Blk w g e cs) (ho : o < cs.size) (hK : ∀ a' w', Fr n a' l → Blk w' g e (cs.setIfInBounds o v) → Kept [g] w w' → wpList P ops Q rest a' w') : wpList P ops Q (⟨none, .store t x y, ty, ps, af, gd⟩ :: rest) a w :=
  L.act f hw rfl (E.store f hi hx hy h1 (B.cell_ (Array.getElem?_eq_getElem ho)) (B.frozen o)) fun a' f' => hK a' _ f' (B.set_ o v) (setCell_kept w g o v)
/-- a store into the whole of a known block -/
theorem L.storeR (f : Fr n a l) (hw : Region.wanted ⟨none, .store t x y, ty, ps, af, gd⟩ (yielded ops a.tmps) = true) {g : Nat} {e : TypeId} {cs cs' : Array Value} {s : Nat} (hi : (P.info? t).map (·.size) = some s) (hx : evl l x = some (.pointer (some ⟨g, 0, none⟩))) (hy : evl l y = some (.agg cs')) (h1 : cs'.toList.all (·.oneCell') = true)
    (B : Blk w g e cs) (hs : cs'.size = cs.size) (hl : cs'.size = s) (hK : ∀ a' w', Fr n a' l → Blk w' g e cs' → Kept [g] w w' → wpList P ops Q rest a' w') : wpList P ops Q (⟨none, .store t x y, ty, ps, af, gd⟩ :: rest) a w :=
  L.act f hw rfl (E.storeR f (hl ▸ hi) hx hy (by simpa using h1) (B.there (by omega))) fun a' f' => hK a' _ f' (setCells_blk B cs' hs) (setCells_kept w g 0 _)
theorem E.loadB (f : Fr n a l) {g : Nat} {e : TypeId} {cs : Array Value} {d : TypeDesc} {s : Nat} (ht : P.underlying t = some d) (hd : d.isRow = true) (hi : (P.info? t).map (·.size) = some s) (hx : evl l x = some (.pointer (some ⟨g, 0, none⟩))) (B : Blk w g e cs) (hl : cs.size = s) :
    (execOp a.eval ⟨dst, .load t x, ty, ps, af, gd⟩).run P w = .ok (.value (.agg cs)) w := by
  have := E.loadR (P := P) (w := w) (dst := dst) (ty := ty) (ps := ps) (af := af) (g := gd) (t := t) f ht hd (cs := cs.toList) hi hx B.range (by simpa using hl)
  simpa using this
end
section
variable {P : Program} {ops : Array Oper} {Q : Exit → Act → World → Prop} {md : Region.Mode} {S : World → Prop} {a : Act} {w : World} {n d : Nat} {l : FL} {v : Value} {fuel : Nat} {listed : Array Bool} {ty : TypeId} {ps : String} {af : Array Edge} {gd : Option (Nat × Bool)} {x y : Operand} {t : TypeId}
theorem R.alloc (i : Nat) (f : Fr n a l) (hi : ops[i]? = some ⟨some d, .alloc t, ty, ps, af, gd⟩) (hn : d < n) (hr : Region.ready md ops listed = [i]) (hw : Region.wanted ⟨some d, .alloc t, ty, ps, af, gd⟩ (yielded ops a.tmps) = true) {z : Value} (hz : ∀ w, (zeroValue t).run P w = .ok z w) {cs : Array Value} (hcs : z.cells = cs)
    (hS : ∀ w', Kept [] w w' → S w') (hK : ∀ a' w' g, Newb w w' g t cs → S w' → Fr n a' ((d, .pointer (some ⟨g, 0, none⟩)) :: l) → wpAnyH P md ops Q S fuel (listed.setIfInBounds i true) a' w') : wpAnyH P md ops Q S (fuel + 1) listed a w :=
  R.val i f hi rfl hn hr hw (E.alloc f hz) (hS _ (newb w t _).kept) fun a' f' => hK a' _ _ (hcs ▸ newb w t _) (hS _ (newb w t _).kept) f'
theorem R.store (i : Nat) (f : Fr n a l) (hi : ops[i]? = some ⟨none, .store t x y, ty, ps, af, gd⟩) (hr : Region.ready md ops listed = [i]) (hw : Region.wanted ⟨none, .store t x y, ty, ps, af, gd⟩ (yielded ops a.tmps) = true) (hs : (P.info? t).map (·.size) = some 1) {g o : Nat} {e : TypeId} {cs : Array Value} (hx : evl l x = some (.pointer (some ⟨g, o, none⟩))) (hy : evl l y = some v) (h1 : v.oneCell' = true)
    (B : Blk w g e cs) (ho : o < cs.size) (hS : ∀ w', Kept [g] w w' → S w') (hK : ∀ a' w', Fr n a' l → Blk w' g e (cs.setIfInBounds o v) → Kept [g] w w' → S w' → wpAnyH P md ops Q S fuel (listed.setIfInBounds i true) a' w') : wpAnyH P md ops Q S (fuel + 1) listed a w :=
  R.act i f hi rfl hr hw (E.store f hs hx hy h1 (B.cell_ (Array.getElem?_eq_getElem ho)) (B.frozen o)) (hS _ (setCell_kept w g o v)) fun a' f' => hK a' _ f' (B.set_ o v) (setCell_kept w g o v) (hS _ (setCell_kept w g o v))
end
end Go.Hub
