/- The step library, part 2: what each operation comes to, from what the frame shows. -/
import Derived.Test.YtpdacegpjofdeaaDoorSt
import Derived.Deep.MidRow
set_option linter.all false
namespace Go.Hub
open Go.RowKit

theorem beqD {α : Type} [BEq α] [LawfulBEq α] [DecidableEq α] (a b : α) : (a == b) = decide (a = b) := by by_cases h : a = b <;> simp [h]
section
variable {P : Program} {a : Act} {w : World} {n : Nat} {l : FL} {dst : Option Nat} {ty : TypeId} {ps : String} {af : Array Edge} {g : Option (Nat × Bool)} {x y z : Operand} {t u : TypeId}
/-! ### values alone -/
theorem E.move (f : Fr n a l) {v : Value} (hx : evl l x = some v) : (execOp a.eval ⟨dst, .move x, ty, ps, af, g⟩).run P w = .ok (.value v) w := by simp [execOp, f.ev hx]
theorem E.assign (f : Fr n a l) {v : Value} (hx : evl l x = some v) : (execOp a.eval ⟨dst, .assign x, ty, ps, af, g⟩).run P w = .ok (.value v) w := by simp [execOp, f.ev hx]
theorem E.pickT (f : Fr n a l) {v : Value} (hc : evl l x = some (.bool true)) (hv : evl l y = some v) : (execOp a.eval ⟨dst, .pick x y z, ty, ps, af, g⟩).run P w = .ok (.value v) w := by simp [execOp, f.ev hc, f.ev hv, asBool]
theorem E.pickF (f : Fr n a l) {v : Value} (hc : evl l x = some (.bool false)) (hv : evl l z = some v) : (execOp a.eval ⟨dst, .pick x y z, ty, ps, af, g⟩).run P w = .ok (.value v) w := by simp [execOp, f.ev hc, f.ev hv, asBool]
theorem E.add (f : Fr n a l) {k : IntKind} {i j r : Int} (hx : evl l x = some (.int k i)) (hy : evl l y = some (.int k j)) (hr : k.wrap (i + j) = r) : (execOp a.eval ⟨dst, .binOp .add t x y u, ty, ps, af, g⟩).run P w = .ok (.value (.int k r)) w := by
  simp [execOp, f.ev hx, f.ev hy, eqGuard, binOp, Op.intArith, hr]
theorem E.sub (f : Fr n a l) {k : IntKind} {i j r : Int} (hx : evl l x = some (.int k i)) (hy : evl l y = some (.int k j)) (hr : k.wrap (i - j) = r) : (execOp a.eval ⟨dst, .binOp .sub t x y u, ty, ps, af, g⟩).run P w = .ok (.value (.int k r)) w := by
  simp [execOp, f.ev hx, f.ev hy, eqGuard, binOp, Op.intArith, hr]
theorem E.mul (f : Fr n a l) {k : IntKind} {i j r : Int} (hx : evl l x = some (.int k i)) (hy : evl l y = some (.int k j)) (hr : k.wrap (i * j) = r) : (execOp a.eval ⟨dst, .binOp .mul t x y u, ty, ps, af, g⟩).run P w = .ok (.value (.int k r)) w := by
  simp [execOp, f.ev hx, f.ev hy, eqGuard, binOp, Op.intArith, hr]
theorem E.quo (f : Fr n a l) {k : IntKind} {i j r : Int} (hx : evl l x = some (.int k i)) (hy : evl l y = some (.int k j)) (h0 : j ≠ 0) (hr : k.wrap (i.tdiv j) = r) : (execOp a.eval ⟨dst, .binOp .quo t x y u, ty, ps, af, g⟩).run P w = .ok (.value (.int k r)) w := by
  simp [execOp, f.ev hx, f.ev hy, eqGuard, binOp, Op.intDiv, h0, hr]
theorem E.rem (f : Fr n a l) {k : IntKind} {i j r : Int} (hx : evl l x = some (.int k i)) (hy : evl l y = some (.int k j)) (h0 : j ≠ 0) (hr : i.tmod j = r) : (execOp a.eval ⟨dst, .binOp .rem t x y u, ty, ps, af, g⟩).run P w = .ok (.value (.int k r)) w := by
  simp [execOp, f.ev hx, f.ev hy, eqGuard, binOp, Op.intDiv, h0, hr]
theorem E.shr (f : Fr n a l) {k k' : IntKind} {i j r : Int} (hx : evl l x = some (.int k i)) (hy : evl l y = some (.int k' j)) (h0 : 0 ≤ j) (hr : i.fdiv (2 ^ (Min.min j.toNat k.bits)) = r) : (execOp a.eval ⟨dst, .binOp .shr t x y u, ty, ps, af, g⟩).run P w = .ok (.value (.int k r)) w := by
  have h1 : ¬ j < 0 := by omega
  simp [execOp, f.ev hx, f.ev hy, eqGuard, binOp, Op.shift, h1, hr]
theorem shr1 (i : Int) : i.fdiv (2 ^ (Min.min (1 : Int).toNat IntKind.u64.bits)) = i / 2 := by
  have : (2 : Int) ^ (Min.min (1 : Int).toNat IntKind.u64.bits) = 2 := by decide
  rw [this]
  exact Int.fdiv_eq_ediv_of_nonneg _ (by decide)
theorem u16_quo (x y : Int) (h : 0 ≤ x ∧ x ≤ 65535 ∧ 1 ≤ y) : IntKind.u16.wrap (x.tdiv y) = x / y := by
  rw [Int.tdiv_eq_ediv_of_nonneg h.1]
  have := IntWalk.tdiv_le x y h.1 h.2.2
  exact IntWalk.u16_in _ ⟨this.1, by omega⟩
theorem E.eql (f : Fr n a l) {k : IntKind} {i j : Int} (hx : evl l x = some (.int k i)) (hy : evl l y = some (.int k j)) : (execOp a.eval ⟨dst, .binOp .eql t x y u, ty, ps, af, g⟩).run P w = .ok (.value (.bool (decide (i = j)))) w := by
  simp [execOp, f.ev hx, f.ev hy, eqGuard, binOp, Op.intCmp, beqD]
theorem E.neq (f : Fr n a l) {k : IntKind} {i j : Int} (hx : evl l x = some (.int k i)) (hy : evl l y = some (.int k j)) : (execOp a.eval ⟨dst, .binOp .neq t x y u, ty, ps, af, g⟩).run P w = .ok (.value (.bool (!decide (i = j)))) w := by
  simp [execOp, f.ev hx, f.ev hy, eqGuard, binOp, Op.intCmp, bne, beqD]
theorem E.lss (f : Fr n a l) {k : IntKind} {i j : Int} (hx : evl l x = some (.int k i)) (hy : evl l y = some (.int k j)) : (execOp a.eval ⟨dst, .binOp .lss t x y u, ty, ps, af, g⟩).run P w = .ok (.value (.bool (decide (i < j)))) w := by
  simp [execOp, f.ev hx, f.ev hy, eqGuard, binOp, Op.intCmp]
theorem E.leq (f : Fr n a l) {k : IntKind} {i j : Int} (hx : evl l x = some (.int k i)) (hy : evl l y = some (.int k j)) : (execOp a.eval ⟨dst, .binOp .leq t x y u, ty, ps, af, g⟩).run P w = .ok (.value (.bool (decide (i ≤ j)))) w := by
  simp [execOp, f.ev hx, f.ev hy, eqGuard, binOp, Op.intCmp]
theorem E.gtr (f : Fr n a l) {k : IntKind} {i j : Int} (hx : evl l x = some (.int k i)) (hy : evl l y = some (.int k j)) : (execOp a.eval ⟨dst, .binOp .gtr t x y u, ty, ps, af, g⟩).run P w = .ok (.value (.bool (decide (j < i)))) w := by
  simp [execOp, f.ev hx, f.ev hy, eqGuard, binOp, Op.intCmp]
theorem E.geq (f : Fr n a l) {k : IntKind} {i j : Int} (hx : evl l x = some (.int k i)) (hy : evl l y = some (.int k j)) : (execOp a.eval ⟨dst, .binOp .geq t x y u, ty, ps, af, g⟩).run P w = .ok (.value (.bool (decide (j ≤ i)))) w := by
  simp [execOp, f.ev hx, f.ev hy, eqGuard, binOp, Op.intCmp]
theorem toList_eq_iff {s r : ByteArray} : s.toList = r.toList ↔ s = r := by
  rw [ByteArray.toList_eq, ByteArray.toList_eq]
  constructor
  · intro h
    exact ByteArray.ext (Array.toList_inj.mp h)
  · intro h; rw [h]
theorem E.eqlS (f : Fr n a l) {s r : ByteArray} (hx : evl l x = some (.string s)) (hy : evl l y = some (.string r)) : (execOp a.eval ⟨dst, .binOp .eql t x y u, ty, ps, af, g⟩).run P w = .ok (.value (.bool (decide (s = r)))) w := by
  simp [execOp, f.ev hx, f.ev hy, eqGuard, binOp, Op.stringOp, beqD, toList_eq_iff]
theorem E.neqS (f : Fr n a l) {s r : ByteArray} (hx : evl l x = some (.string s)) (hy : evl l y = some (.string r)) : (execOp a.eval ⟨dst, .binOp .neq t x y u, ty, ps, af, g⟩).run P w = .ok (.value (.bool (!decide (s = r)))) w := by
  simp [execOp, f.ev hx, f.ev hy, eqGuard, binOp, Op.stringOp, beqD, toList_eq_iff]
theorem E.lssS (f : Fr n a l) {s r : ByteArray} (hx : evl l x = some (.string s)) (hy : evl l y = some (.string r)) : (execOp a.eval ⟨dst, .binOp .lss t x y u, ty, ps, af, g⟩).run P w = .ok (.value (.bool (Op.bytesLess s.toList r.toList))) w := by
  simp [execOp, f.ev hx, f.ev hy, eqGuard, binOp, Op.stringOp]
theorem E.geqS (f : Fr n a l) {s r : ByteArray} (hx : evl l x = some (.string s)) (hy : evl l y = some (.string r)) : (execOp a.eval ⟨dst, .binOp .geq t x y u, ty, ps, af, g⟩).run P w = .ok (.value (.bool (!Op.bytesLess s.toList r.toList))) w := by
  simp [execOp, f.ev hx, f.ev hy, eqGuard, binOp, Op.stringOp]
theorem E.addS (f : Fr n a l) {s r : ByteArray} (hx : evl l x = some (.string s)) (hy : evl l y = some (.string r)) (hb : s.size + r.size ≤ 9223372036854775807) : (execOp a.eval ⟨dst, .binOp .add t x y u, ty, ps, af, g⟩).run P w = .ok (.value (.string (s ++ r))) w := by
  have h : ¬ (((s.size + r.size : Nat) : Int) > IntKind.i64.max) := by
    have : IntKind.i64.max = 9223372036854775807 := by decide
    rw [this]; omega
  simp only [execOp, f.ev hx, f.ev hy, eqGuard, binOp, Op.stringOp]
  simp only [h, if_false]
  rfl
theorem E.eqlB (f : Fr n a l) {b c : Bool} (ht : P.underlying t = some .bool) (hx : evl l x = some (.bool b)) (hy : evl l y = some (.bool c)) : (execOp a.eval ⟨dst, .binOp .eql t x y u, ty, ps, af, g⟩).run P w = .ok (.value (.bool (b == c))) w := by
  simp [execOp, f.ev hx, f.ev hy, eqGuard, binOp, Op.equal, Op.maxDepth, run_equalIn_bool' w _ t b c ht]
theorem E.neqB (f : Fr n a l) {b c : Bool} (ht : P.underlying t = some .bool) (hx : evl l x = some (.bool b)) (hy : evl l y = some (.bool c)) : (execOp a.eval ⟨dst, .binOp .neq t x y u, ty, ps, af, g⟩).run P w = .ok (.value (.bool (b != c))) w := by
  simp [execOp, f.ev hx, f.ev hy, eqGuard, binOp, Op.equal, Op.maxDepth, run_equalIn_bool' w _ t b c ht, bne]
/-- any comparison, given what it tells -/
theorem E.eqlV (f : Fr n a l) {v v' : Value} {b : Bool} (hx : evl l x = some v) (hy : evl l y = some v') (h : ∀ w, (do eqGuard .eql t x y v v'; binOp .eql t v v' : Sem Value).run P w = .ok (.bool b) w) : (execOp a.eval ⟨dst, .binOp .eql t x y u, ty, ps, af, g⟩).run P w = .ok (.value (.bool b)) w := by
  have := h w
  simp only [execOp, f.ev hx, f.ev hy]
  rw [Sem.run_bind, this]
  rfl
theorem E.neqV (f : Fr n a l) {v v' : Value} {b : Bool} (hx : evl l x = some v) (hy : evl l y = some v') (h : ∀ w, (do eqGuard .neq t x y v v'; binOp .neq t v v' : Sem Value).run P w = .ok (.bool b) w) : (execOp a.eval ⟨dst, .binOp .neq t x y u, ty, ps, af, g⟩).run P w = .ok (.value (.bool b)) w := by
  have := h w
  simp only [execOp, f.ev hx, f.ev hy]
  rw [Sem.run_bind, this]
  rfl
theorem E.not (f : Fr n a l) {b : Bool} (hx : evl l x = some (.bool b)) : (execOp a.eval ⟨dst, .unOp .not t x, ty, ps, af, g⟩).run P w = .ok (.value (.bool (!b))) w := by simp [execOp, f.ev hx, Op.unary]
theorem E.neg (f : Fr n a l) {k : IntKind} {i r : Int} (hx : evl l x = some (.int k i)) (hr : k.wrap (0 - i) = r) : (execOp a.eval ⟨dst, .unOp .neg t x, ty, ps, af, g⟩).run P w = .ok (.value (.int k r)) w := by
  simp [execOp, f.ev hx, Op.unary, Op.intArith, ← hr]
theorem E.conv (f : Fr n a l) {k k' : IntKind} {i r : Int} (ht : P.underlying t = some (.int k)) (hu : P.underlying u = some (.int k')) (hx : evl l x = some (.int k i)) (hr : k'.wrap i = r) : (execOp a.eval ⟨dst, .convert t u x, ty, ps, af, g⟩).run P w = .ok (.value (.int k' r)) w := by
  simp [execOp, f.ev hx, convert, run_underlying ht, run_underlying hu, Conv.intToInt, hr]
theorem E.convS (f : Fr n a l) {s : ByteArray} (ht : P.underlying t = some .string) (hu : P.underlying u = some .string) (hx : evl l x = some (.string s)) : (execOp a.eval ⟨dst, .convert t u x, ty, ps, af, g⟩).run P w = .ok (.value (.string s)) w := by
  simp [execOp, f.ev hx, convert, run_underlying ht, run_underlying hu]
/-- .. given what it comes to -/
theorem E.convV (f : Fr n a l) {v v' : Value} {w' : World} (hx : evl l x = some v) (h : (convert t u v).run P w = .ok v' w') : (execOp a.eval ⟨dst, .convert t u x, ty, ps, af, g⟩).run P w = .ok (.value v') w' := by
  simp [execOp, f.ev hx, h]
theorem E.field (f : Fr n a l) {cs : Array Value} {fs : Array Field} {i : Nat} {fld : Field} {d : TypeDesc} {v : Value} (ht : P.underlying t = some (.struct fs)) (hx : evl l x = some (.agg cs)) (hi : fs[i]? = some fld)
    (hd : P.underlying fld.type = some d) (hd' : d.isRow = false) (hv : cs[fld.offset]? = some v) : (execOp a.eval ⟨dst, .field t x i, ty, ps, af, g⟩).run P w = .ok (.value v) w := by
  have hagg : (isAgg fld.type).run P w = .ok false w := by
    unfold isAgg
    rw [Sem.run_bind, run_underlying hd w]
    cases d <;> simp_all [TypeDesc.isRow]
  simp [execOp, f.ev hx, Instr.field, run_underlying ht, hi, part, asAgg, hagg, hv]
theorem E.fieldR (f : Fr n a l) {cs : Array Value} {fs : Array Field} {i : Nat} {fld : Field} {d : TypeDesc} {s : Nat} {cs' : Array Value} (ht : P.underlying t = some (.struct fs)) (hx : evl l x = some (.agg cs)) (hi : fs[i]? = some fld)
    (hd : P.underlying fld.type = some d) (hd' : d.isRow = true) (hs : (P.info? fld.type).map (·.size) = some s) (hv : cs.extract fld.offset (fld.offset + s) = cs') : (execOp a.eval ⟨dst, .field t x i, ty, ps, af, g⟩).run P w = .ok (.value (.agg cs')) w := by
  have hagg : (isAgg fld.type).run P w = .ok true w := by
    unfold isAgg
    rw [Sem.run_bind, run_underlying hd w]
    cases d <;> simp_all [TypeDesc.isRow]
  cases hq : P.info? fld.type with
  | none => simp [hq] at hs
  | some i' =>
    have hs' : i'.size = s := by simpa [hq] using hs
    simp [execOp, f.ev hx, Instr.field, run_underlying ht, hi, part, asAgg, hagg, sizeOf, typeInfo, hq, hs', hv]
theorem E.extract (f : Fr n a l) {vs : Array Value} {i : Nat} {v : Value} (hx : evl l x = some (.tuple vs)) (hi : vs[i]? = some v) : (execOp a.eval ⟨dst, .extract x i, ty, ps, af, g⟩).run P w = .ok (.value v) w := by
  simp [execOp, f.ev hx, Instr.extract, hi]
theorem E.makeInterface (f : Fr n a l) {v : Value} (hc : P.concrete t = true) (hx : evl l x = some v) : (execOp a.eval ⟨dst, .makeInterface t x, ty, ps, af, g⟩).run P w = .ok (.value (.iface t v)) w := by
  simp [execOp, f.ev hx, run_makeInterface w t v hc]
theorem E.nilCheck (f : Fr n a l) {ad : Addr} (hx : evl l x = some (.pointer (some ad))) : (execOp a.eval ⟨dst, .nilCheck x, ty, ps, af, g⟩).run P w = .ok (.value (.pointer (some ad))) w := by
  simp [execOp, f.ev hx]
theorem E.build (f : Fr n a l) {parts : Array (Nat × Operand)} {vs : List (Nat × Value)} {cs : Array Value} (hx : (parts.map fun p => (p.1, a.eval p.2)).toList = vs) (hb : P.built t vs = some cs) : (execOp a.eval ⟨dst, .build t parts, ty, ps, af, g⟩).run P w = .ok (.value (.agg cs)) w := by
  have hx' : (parts.map fun (i, x) => (i, a.eval x)).toList = vs := hx
  have hr := run_build (P := P) w t (parts.map fun (i, x) => (i, a.eval x)) cs (by rw [hx']; exact hb)
  simp only [execOp]
  rw [Sem.run_bind, hr]
  rfl
/-! ### lengths -/
theorem E.lenS (f : Fr n a l) {s : ByteArray} (ht : P.underlying t = some .string) (hx : evl l x = some (.string s)) : (execOp a.eval ⟨dst, .call { callee := .builtin .len, args := #[x], argTypes := #[t] }, ty, ps, af, g⟩).run P w = .ok (.value (.int .i64 s.size)) w := by
  simp [execOp, resolve, invoke, builtin, f.ev hx, Builtin.len_, run_underlying ht, goInt]
theorem E.lenL (f : Fr n a l) {e : TypeId} {A : Option Addr} {m c : Nat} (ht : P.underlying t = some (.slice e)) (hx : evl l x = some (.slice A m c)) : (execOp a.eval ⟨dst, .call { callee := .builtin .len, args := #[x], argTypes := #[t] }, ty, ps, af, g⟩).run P w = .ok (.value (.int .i64 m)) w := by
  simp [execOp, resolve, invoke, builtin, f.ev hx, Builtin.len_, run_underlying ht, goInt]
theorem E.min (f : Fr n a l) {k : IntKind} {i j : Int} (hx : evl l x = some (.int k i)) (hy : evl l y = some (.int k j)) : (execOp a.eval ⟨dst, .call { callee := .builtin .min, args := #[x, y], argTypes := #[t, u] }, ty, ps, af, g⟩).run P w = .ok (.value (.int k (Min.min i j))) w := by
  have e : Min.min i j = if j < i then j else i := by rw [Int.min_def]; split <;> split <;> omega
  simp [execOp, resolve, invoke, builtin, f.ev hx, f.ev hy, Builtin.min_, Builtin.min2, e]
theorem E.max (f : Fr n a l) {k : IntKind} {i j : Int} (hx : evl l x = some (.int k i)) (hy : evl l y = some (.int k j)) : (execOp a.eval ⟨dst, .call { callee := .builtin .max, args := #[x, y], argTypes := #[t, u] }, ty, ps, af, g⟩).run P w = .ok (.value (.int k (Max.max i j))) w := by
  have e : Max.max i j = if i < j then j else i := by rw [Int.max_def]; split <;> split <;> omega
  simp [execOp, resolve, invoke, builtin, f.ev hx, f.ev hy, Builtin.max_, Builtin.max2, e]
/-! ### places -/
theorem add_plain (b o k : Nat) : (⟨b, o, none⟩ : Addr).add k = ⟨b, o + k, none⟩ := Addr.add_mid b o k
theorem E.fieldAddr (f : Fr n a l) {fs : Array Field} {i : Nat} {fld : Field} {b o s : Nat} (ht : P.underlying t = some (.struct fs)) (hx : evl l x = some (.pointer (some ⟨b, o, none⟩))) (hi : fs[i]? = some fld)
    (hs : (P.info? fld.type).map (·.size) = some (s + 1)) : (execOp a.eval ⟨dst, .fieldAddr t x i, ty, ps, af, g⟩).run P w = .ok (.value (.pointer (some ⟨b, o + fld.offset, none⟩))) w := by
  cases hq : P.info? fld.type with
  | none => simp [hq] at hs
  | some i' =>
    have hs' : i'.size = s + 1 := by simpa [hq] using hs
    simp [execOp, f.ev hx, Instr.fieldAt, run_underlying ht, hi, Instr.sureAddr, fieldPlace, sizeOf, typeInfo, hq, hs', add_plain]
theorem E.indexAddr (f : Fr n a l) {e : TypeId} {b o m c s : Nat} {k : IntKind} {i : Int} (ht : P.underlying t = some (.slice e)) (hs : (P.info? e).map (·.size) = some s) (hx : evl l x = some (.slice (some ⟨b, o, none⟩) m c)) (hy : evl l y = some (.int k i))
    (h0 : 0 ≤ i) (h1 : i < m) : (execOp a.eval ⟨dst, .indexAddr t x y, ty, ps, af, g⟩).run P w = .ok (.value (.pointer (some ⟨b, o + i.toNat * s, none⟩))) w := by
  cases hq : P.info? e with
  | none => simp [hq] at hs
  | some i' =>
    have hs' : i'.size = s := by simpa [hq] using hs
    simp [execOp, f.ev hx, f.ev hy, Instr.indexAt, asIntOf, run_underlying ht, h0, h1, sizeOf, typeInfo, hq, hs', add_plain]
/-! ### memory -/
theorem E.load (f : Fr n a l) {ad : Addr} {v : Value} {d : TypeDesc} (ht : P.underlying t = some d) (hd : d.isRow = false) (hx : evl l x = some (.pointer (some ad))) (hc : w.cell? ad = some v) : (execOp a.eval ⟨dst, .load t x, ty, ps, af, g⟩).run P w = .ok (.value v) w := by
  have hagg : (isAgg t).run P w = .ok false w := by
    unfold isAgg
    rw [Sem.run_bind, run_underlying ht w]
    cases d <;> simp_all [TypeDesc.isRow]
  simp [execOp, f.ev hx, Instr.loadAt, Instr.sureAddr, loadVar, hagg, load, Sem.run, hc]
theorem E.loadR (f : Fr n a l) {b o s : Nat} {cs : List Value} {d : TypeDesc} (ht : P.underlying t = some d) (hd : d.isRow = true) (hi : (P.info? t).map (·.size) = some s) (hx : evl l x = some (.pointer (some ⟨b, o, none⟩))) (hc : w.rangeAt b o cs) (hl : cs.length = s) :
    (execOp a.eval ⟨dst, .load t x, ty, ps, af, g⟩).run P w = .ok (.value (.agg cs.toArray)) w := by
  subst hl
  simp only [execOp, f.ev hx]
  rw [Sem.run_bind, run_loadAt_mid w b o t cs d hc ht hd hi]
  rfl
theorem E.store (f : Fr n a l) {b o : Nat} {v old : Value} (hi : (P.info? t).map (·.size) = some 1) (hx : evl l x = some (.pointer (some ⟨b, o, none⟩))) (hy : evl l y = some v) (h1 : v.oneCell' = true) (hc : w.cell? ⟨b, o, none⟩ = some old) (hf : w.frozen? ⟨b, o, none⟩ = false) :
    (execOp a.eval ⟨dst, .store t x y, ty, ps, af, g⟩).run P w = .ok .skip (w.setCell ⟨b, o, none⟩ v) := by
  have hcs : v.cells = #[v] := by cases v <;> first | rfl | cases h1
  have := run_storeCells_cells (P := P) b o [v] 0 w (fun j hj => by simp at hj; subst hj; simp [hc]) (fun j hj => by simp at hj; subst hj; simpa using hf) (fun u hu => by simp at hu; subst hu; exact h1)
  cases hq : P.info? t with
  | none => simp [hq] at hi
  | some i =>
    have hs : i.size = 1 := by simpa [hq] using hi
    simp only [execOp, f.ev hx, f.ev hy]
    simp only [Nat.add_zero, World.setCells] at this
    simp [Instr.storeAt, Instr.sureAddr, storeVar, sizeOf, typeInfo, hq, hcs, hs, this]
theorem E.storeR (f : Fr n a l) {b o : Nat} {cs : Array Value} (hi : (P.info? t).map (·.size) = some cs.size) (hx : evl l x = some (.pointer (some ⟨b, o, none⟩))) (hy : evl l y = some (.agg cs)) (h1 : cs.all (·.oneCell') = true) (ht : w.there b o cs.size) :
    (execOp a.eval ⟨dst, .store t x y, ty, ps, af, g⟩).run P w = .ok .skip (w.setCells b o cs.toList) := by
  simp only [execOp, f.ev hx, f.ev hy]
  rw [Sem.run_bind, run_storeAt_mid w b o t cs ht hi h1]
  rfl
theorem E.alloc (f : Fr n a l) {z : Value} (hz : ∀ w, (zeroValue t).run P w = .ok z w) : (execOp a.eval ⟨dst, .alloc t, ty, ps, af, g⟩).run P w = .ok (.value (.pointer (some ⟨w.heap.size, 0, none⟩))) (w.alloc (.cells z.cells t)) := by
  simp only [execOp, Instr.alloc]
  rw [Sem.run_bind, Sem.run_bind, hz w]
  rfl
theorem E.box (f : Fr n a l) {v : Value} (hx : evl l x = some v) : (execOp a.eval ⟨dst, .box t x, ty, ps, af, g⟩).run P w = .ok (.value (.pointer (some ⟨w.heap.size, 0, none⟩))) (w.alloc (.cells v.cells t)) := by
  simp only [execOp, f.ev hx]
  rfl
theorem E.slS (f : Fr n a l) {s : ByteArray} {i j : Int} {ki kj : IntKind} (ht : P.underlying t = some .string) (hx : evl l x = some (.string s)) (hy : evl l y = some (.int ki i)) (hz : evl l z = some (.int kj j)) (h0 : 0 ≤ i) (h1 : i ≤ j) (h2 : j ≤ s.size) :
    (execOp a.eval ⟨dst, .slice t x (some y) (some z) none, ty, ps, af, g⟩).run P w = .ok (.value (.string (s.extract i.toNat j.toNat))) w := by
  have e1 : i ≤ ((j.toNat : Nat) : Int) := by omega
  simp [execOp, f.ev hx, f.ev hy, f.ev hz, Instr.sliceAt, Instr.slice, Instr.sliceBounds, Instr.sliceBound, asIntOf, run_underlying ht, h0, h2, e1, show 0 ≤ j by omega]
  intro hh
  omega
theorem E.slSlo (f : Fr n a l) {s : ByteArray} {i : Int} {ki : IntKind} (ht : P.underlying t = some .string) (hx : evl l x = some (.string s)) (hy : evl l y = some (.int ki i)) (h0 : 0 ≤ i) (h1 : i ≤ s.size) :
    (execOp a.eval ⟨dst, .slice t x (some y) none none, ty, ps, af, g⟩).run P w = .ok (.value (.string (s.extract i.toNat s.size))) w := by
  simp [execOp, f.ev hx, f.ev hy, Instr.sliceAt, Instr.slice, Instr.sliceBounds, Instr.sliceBound, asIntOf, run_underlying ht, h0, h1]
theorem E.slShi (f : Fr n a l) {s : ByteArray} {i : Int} {ki : IntKind} (ht : P.underlying t = some .string) (hx : evl l x = some (.string s)) (hy : evl l y = some (.int ki i)) (h0 : 0 ≤ i) (h1 : i ≤ s.size) :
    (execOp a.eval ⟨dst, .slice t x none (some y) none, ty, ps, af, g⟩).run P w = .ok (.value (.string (s.extract 0 i.toNat))) w := by
  simp [execOp, f.ev hx, f.ev hy, Instr.sliceAt, Instr.slice, Instr.sliceBounds, Instr.sliceBound, asIntOf, run_underlying ht, h0, h1]
theorem E.slL (f : Fr n a l) {e : TypeId} {A : Option Addr} {m c s : Nat} {i j : Int} {ki kj : IntKind} (ht : P.underlying t = some (.slice e)) (hs : (P.info? e).map (·.size) = some s) (hx : evl l x = some (.slice A m c)) (hy : evl l y = some (.int ki i)) (hz : evl l z = some (.int kj j)) (h0 : 0 ≤ i) (h1 : i ≤ j) (h2 : j ≤ c) :
    (execOp a.eval ⟨dst, .slice t x (some y) (some z) none, ty, ps, af, g⟩).run P w = .ok (.value (.slice (if c = i.toNat then A else A.map (·.add (i.toNat * s))) (j.toNat - i.toNat) (c - i.toNat))) w := by
  have e1 : i ≤ ((j.toNat : Nat) : Int) := by omega
  cases hq : P.info? e with
  | none => simp [hq] at hs
  | some i' =>
    have hs' : i'.size = s := by simpa [hq] using hs
    simp [execOp, f.ev hx, f.ev hy, f.ev hz, Instr.sliceAt, Instr.slice, Instr.sliceBounds, Instr.sliceBound, asIntOf, run_underlying ht, h0, h2, e1, show 0 ≤ j by omega, sizeOf, typeInfo, hq, hs']
    intro hh
    omega
theorem E.slLlo (f : Fr n a l) {e : TypeId} {A : Option Addr} {m c s : Nat} {i : Int} {ki : IntKind} (ht : P.underlying t = some (.slice e)) (hs : (P.info? e).map (·.size) = some s) (hx : evl l x = some (.slice A m c)) (hy : evl l y = some (.int ki i)) (h0 : 0 ≤ i) (h1 : i ≤ m) :
    (execOp a.eval ⟨dst, .slice t x (some y) none none, ty, ps, af, g⟩).run P w = .ok (.value (.slice (if c = i.toNat then A else A.map (·.add (i.toNat * s))) (m - i.toNat) (c - i.toNat))) w := by
  cases hq : P.info? e with
  | none => simp [hq] at hs
  | some i' =>
    have hs' : i'.size = s := by simpa [hq] using hs
    simp [execOp, f.ev hx, f.ev hy, Instr.sliceAt, Instr.slice, Instr.sliceBounds, Instr.sliceBound, asIntOf, run_underlying ht, h0, h1, sizeOf, typeInfo, hq, hs']
theorem E.slLhi (f : Fr n a l) {e : TypeId} {A : Option Addr} {m c s : Nat} {i : Int} {ki : IntKind} (ht : P.underlying t = some (.slice e)) (hs : (P.info? e).map (·.size) = some s) (hx : evl l x = some (.slice A m c)) (hy : evl l y = some (.int ki i)) (h0 : 0 ≤ i) (h1 : i ≤ c) :
    (execOp a.eval ⟨dst, .slice t x none (some y) none, ty, ps, af, g⟩).run P w = .ok (.value (.slice A i.toNat c)) w := by
  cases hq : P.info? e with
  | none => simp [hq] at hs
  | some i' =>
    have hs' : i'.size = s := by simpa [hq] using hs
    have e0 : (A.map fun a => a.add 0) = A := by cases A with
      | none => rfl
      | some b => cases b with | mk b o s => simp [Addr.add]
    simp [execOp, f.ev hx, f.ev hy, Instr.sliceAt, Instr.slice, Instr.sliceBounds, Instr.sliceBound, asIntOf, run_underlying ht, h0, h1, sizeOf, typeInfo, hq, hs', e0]
theorem E.indexS (f : Fr n a l) {s : ByteArray} {i : Int} {ki : IntKind} {b : UInt8} (ht : P.underlying t = some .string) (hx : evl l x = some (.string s)) (hy : evl l y = some (.int ki i)) (h0 : 0 ≤ i) (hb : s[i.toNat]? = some b) :
    (execOp a.eval ⟨dst, .index t x y, ty, ps, af, g⟩).run P w = .ok (.value (.int .u8 b.toNat)) w := by
  simp [execOp, f.ev hx, f.ev hy, Instr.index, asIntOf, run_underlying ht, h0, hb]
theorem E.makeFunc (f : Fr n a l) {fn : Fn} : (execOp a.eval ⟨dst, .makeFunc fn #[] #[], ty, ps, af, g⟩).run P w = .ok (.value (.func fn #[] #[])) w := by simp [execOp, Instr.makeFunc]
end
/-! ### arguments, parts -/
section
variable {a : Act} {n : Nat} {l : FL}
theorem args0 (f : Fr n a l) : (#[] : Array Operand).map a.eval = #[] := by simp
theorem args1 (f : Fr n a l) {x0 : Operand} {v0 : Value} (h0 : evl l x0 = some v0) : #[x0].map a.eval = #[v0] := by simp [f.ev h0]
theorem args2 (f : Fr n a l) {x0 x1 : Operand} {v0 v1 : Value} (h0 : evl l x0 = some v0) (h1 : evl l x1 = some v1) : #[x0, x1].map a.eval = #[v0, v1] := by simp [f.ev h0, f.ev h1]
theorem args3 (f : Fr n a l) {x0 x1 x2 : Operand} {v0 v1 v2 : Value} (h0 : evl l x0 = some v0) (h1 : evl l x1 = some v1) (h2 : evl l x2 = some v2) : #[x0, x1, x2].map a.eval = #[v0, v1, v2] := by simp [f.ev h0, f.ev h1, f.ev h2]
theorem args4 (f : Fr n a l) {x0 x1 x2 x3 : Operand} {v0 v1 v2 v3 : Value} (h0 : evl l x0 = some v0) (h1 : evl l x1 = some v1) (h2 : evl l x2 = some v2) (h3 : evl l x3 = some v3) : #[x0, x1, x2, x3].map a.eval = #[v0, v1, v2, v3] := by simp [f.ev h0, f.ev h1, f.ev h2, f.ev h3]
theorem args5 (f : Fr n a l) {x0 x1 x2 x3 x4 : Operand} {v0 v1 v2 v3 v4 : Value} (h0 : evl l x0 = some v0) (h1 : evl l x1 = some v1) (h2 : evl l x2 = some v2) (h3 : evl l x3 = some v3) (h4 : evl l x4 = some v4) : #[x0, x1, x2, x3, x4].map a.eval = #[v0, v1, v2, v3, v4] := by simp [f.ev h0, f.ev h1, f.ev h2, f.ev h3, f.ev h4]
theorem args6 (f : Fr n a l) {x0 x1 x2 x3 x4 x5 : Operand} {v0 v1 v2 v3 v4 v5 : Value} (h0 : evl l x0 = some v0) (h1 : evl l x1 = some v1) (h2 : evl l x2 = some v2) (h3 : evl l x3 = some v3) (h4 : evl l x4 = some v4) (h5 : evl l x5 = some v5) : #[x0, x1, x2, x3, x4, x5].map a.eval = #[v0, v1, v2, v3, v4, v5] := by simp [f.ev h0, f.ev h1, f.ev h2, f.ev h3, f.ev h4, f.ev h5]
theorem args7 (f : Fr n a l) {x0 x1 x2 x3 x4 x5 x6 : Operand} {v0 v1 v2 v3 v4 v5 v6 : Value} (h0 : evl l x0 = some v0) (h1 : evl l x1 = some v1) (h2 : evl l x2 = some v2) (h3 : evl l x3 = some v3) (h4 : evl l x4 = some v4) (h5 : evl l x5 = some v5) (h6 : evl l x6 = some v6) : #[x0, x1, x2, x3, x4, x5, x6].map a.eval = #[v0, v1, v2, v3, v4, v5, v6] := by simp [f.ev h0, f.ev h1, f.ev h2, f.ev h3, f.ev h4, f.ev h5, f.ev h6]
theorem args8 (f : Fr n a l) {x0 x1 x2 x3 x4 x5 x6 x7 : Operand} {v0 v1 v2 v3 v4 v5 v6 v7 : Value} (h0 : evl l x0 = some v0) (h1 : evl l x1 = some v1) (h2 : evl l x2 = some v2) (h3 : evl l x3 = some v3) (h4 : evl l x4 = some v4) (h5 : evl l x5 = some v5) (h6 : evl l x6 = some v6) (h7 : evl l x7 = some v7) : #[x0, x1, x2, x3, x4, x5, x6, x7].map a.eval = #[v0, v1, v2, v3, v4, v5, v6, v7] := by simp [f.ev h0, f.ev h1, f.ev h2, f.ev h3, f.ev h4, f.ev h5, f.ev h6, f.ev h7]
theorem args9 (f : Fr n a l) {x0 x1 x2 x3 x4 x5 x6 x7 x8 : Operand} {v0 v1 v2 v3 v4 v5 v6 v7 v8 : Value} (h0 : evl l x0 = some v0) (h1 : evl l x1 = some v1) (h2 : evl l x2 = some v2) (h3 : evl l x3 = some v3) (h4 : evl l x4 = some v4) (h5 : evl l x5 = some v5) (h6 : evl l x6 = some v6) (h7 : evl l x7 = some v7) (h8 : evl l x8 = some v8) : #[x0, x1, x2, x3, x4, x5, x6, x7, x8].map a.eval = #[v0, v1, v2, v3, v4, v5, v6, v7, v8] := by simp [f.ev h0, f.ev h1, f.ev h2, f.ev h3, f.ev h4, f.ev h5, f.ev h6, f.ev h7, f.ev h8]
theorem parts0 (f : Fr n a l) : ((#[] : Array (Nat × Operand)).map fun p => (p.1, a.eval p.2)).toList = [] := by simp
theorem parts1 (f : Fr n a l) {i0 : Nat} {x0 : Operand} {v0 : Value} (h0 : evl l x0 = some v0) : (#[(i0, x0)].map fun (p : Nat × Operand) => (p.1, a.eval p.2)).toList = [(i0, v0)] := by simp [f.ev h0]
theorem parts2 (f : Fr n a l) {i0 i1 : Nat} {x0 x1 : Operand} {v0 v1 : Value} (h0 : evl l x0 = some v0) (h1 : evl l x1 = some v1) : (#[(i0, x0), (i1, x1)].map fun (p : Nat × Operand) => (p.1, a.eval p.2)).toList = [(i0, v0), (i1, v1)] := by simp [f.ev h0, f.ev h1]
theorem parts3 (f : Fr n a l) {i0 i1 i2 : Nat} {x0 x1 x2 : Operand} {v0 v1 v2 : Value} (h0 : evl l x0 = some v0) (h1 : evl l x1 = some v1) (h2 : evl l x2 = some v2) : (#[(i0, x0), (i1, x1), (i2, x2)].map fun (p : Nat × Operand) => (p.1, a.eval p.2)).toList = [(i0, v0), (i1, v1), (i2, v2)] := by simp [f.ev h0, f.ev h1, f.ev h2]
theorem parts4 (f : Fr n a l) {i0 i1 i2 i3 : Nat} {x0 x1 x2 x3 : Operand} {v0 v1 v2 v3 : Value} (h0 : evl l x0 = some v0) (h1 : evl l x1 = some v1) (h2 : evl l x2 = some v2) (h3 : evl l x3 = some v3) : (#[(i0, x0), (i1, x1), (i2, x2), (i3, x3)].map fun (p : Nat × Operand) => (p.1, a.eval p.2)).toList = [(i0, v0), (i1, v1), (i2, v2), (i3, v3)] := by simp [f.ev h0, f.ev h1, f.ev h2, f.ev h3]
theorem parts5 (f : Fr n a l) {i0 i1 i2 i3 i4 : Nat} {x0 x1 x2 x3 x4 : Operand} {v0 v1 v2 v3 v4 : Value} (h0 : evl l x0 = some v0) (h1 : evl l x1 = some v1) (h2 : evl l x2 = some v2) (h3 : evl l x3 = some v3) (h4 : evl l x4 = some v4) : (#[(i0, x0), (i1, x1), (i2, x2), (i3, x3), (i4, x4)].map fun (p : Nat × Operand) => (p.1, a.eval p.2)).toList = [(i0, v0), (i1, v1), (i2, v2), (i3, v3), (i4, v4)] := by simp [f.ev h0, f.ev h1, f.ev h2, f.ev h3, f.ev h4]
theorem parts6 (f : Fr n a l) {i0 i1 i2 i3 i4 i5 : Nat} {x0 x1 x2 x3 x4 x5 : Operand} {v0 v1 v2 v3 v4 v5 : Value} (h0 : evl l x0 = some v0) (h1 : evl l x1 = some v1) (h2 : evl l x2 = some v2) (h3 : evl l x3 = some v3) (h4 : evl l x4 = some v4) (h5 : evl l x5 = some v5) : (#[(i0, x0), (i1, x1), (i2, x2), (i3, x3), (i4, x4), (i5, x5)].map fun (p : Nat × Operand) => (p.1, a.eval p.2)).toList = [(i0, v0), (i1, v1), (i2, v2), (i3, v3), (i4, v4), (i5, v5)] := by simp [f.ev h0, f.ev h1, f.ev h2, f.ev h3, f.ev h4, f.ev h5]
theorem parts7 (f : Fr n a l) {i0 i1 i2 i3 i4 i5 i6 : Nat} {x0 x1 x2 x3 x4 x5 x6 : Operand} {v0 v1 v2 v3 v4 v5 v6 : Value} (h0 : evl l x0 = some v0) (h1 : evl l x1 = some v1) (h2 : evl l x2 = some v2) (h3 : evl l x3 = some v3) (h4 : evl l x4 = some v4) (h5 : evl l x5 = some v5) (h6 : evl l x6 = some v6) : (#[(i0, x0), (i1, x1), (i2, x2), (i3, x3), (i4, x4), (i5, x5), (i6, x6)].map fun (p : Nat × Operand) => (p.1, a.eval p.2)).toList = [(i0, v0), (i1, v1), (i2, v2), (i3, v3), (i4, v4), (i5, v5), (i6, v6)] := by simp [f.ev h0, f.ev h1, f.ev h2, f.ev h3, f.ev h4, f.ev h5, f.ev h6]
theorem parts8 (f : Fr n a l) {i0 i1 i2 i3 i4 i5 i6 i7 : Nat} {x0 x1 x2 x3 x4 x5 x6 x7 : Operand} {v0 v1 v2 v3 v4 v5 v6 v7 : Value} (h0 : evl l x0 = some v0) (h1 : evl l x1 = some v1) (h2 : evl l x2 = some v2) (h3 : evl l x3 = some v3) (h4 : evl l x4 = some v4) (h5 : evl l x5 = some v5) (h6 : evl l x6 = some v6) (h7 : evl l x7 = some v7) : (#[(i0, x0), (i1, x1), (i2, x2), (i3, x3), (i4, x4), (i5, x5), (i6, x6), (i7, x7)].map fun (p : Nat × Operand) => (p.1, a.eval p.2)).toList = [(i0, v0), (i1, v1), (i2, v2), (i3, v3), (i4, v4), (i5, v5), (i6, v6), (i7, v7)] := by simp [f.ev h0, f.ev h1, f.ev h2, f.ev h3, f.ev h4, f.ev h5, f.ev h6, f.ev h7]
theorem parts9 (f : Fr n a l) {i0 i1 i2 i3 i4 i5 i6 i7 i8 : Nat} {x0 x1 x2 x3 x4 x5 x6 x7 x8 : Operand} {v0 v1 v2 v3 v4 v5 v6 v7 v8 : Value} (h0 : evl l x0 = some v0) (h1 : evl l x1 = some v1) (h2 : evl l x2 = some v2) (h3 : evl l x3 = some v3) (h4 : evl l x4 = some v4) (h5 : evl l x5 = some v5) (h6 : evl l x6 = some v6) (h7 : evl l x7 = some v7) (h8 : evl l x8 = some v8) : (#[(i0, x0), (i1, x1), (i2, x2), (i3, x3), (i4, x4), (i5, x5), (i6, x6), (i7, x7), (i8, x8)].map fun (p : Nat × Operand) => (p.1, a.eval p.2)).toList = [(i0, v0), (i1, v1), (i2, v2), (i3, v3), (i4, v4), (i5, v5), (i6, v6), (i7, v7), (i8, v8)] := by simp [f.ev h0, f.ev h1, f.ev h2, f.ev h3, f.ev h4, f.ev h5, f.ev h6, f.ev h7, f.ev h8]
theorem parts10 (f : Fr n a l) {i0 i1 i2 i3 i4 i5 i6 i7 i8 i9 : Nat} {x0 x1 x2 x3 x4 x5 x6 x7 x8 x9 : Operand} {v0 v1 v2 v3 v4 v5 v6 v7 v8 v9 : Value} (h0 : evl l x0 = some v0) (h1 : evl l x1 = some v1) (h2 : evl l x2 = some v2) (h3 : evl l x3 = some v3) (h4 : evl l x4 = some v4) (h5 : evl l x5 = some v5) (h6 : evl l x6 = some v6) (h7 : evl l x7 = some v7) (h8 : evl l x8 = some v8) (h9 : evl l x9 = some v9) : (#[(i0, x0), (i1, x1), (i2, x2), (i3, x3), (i4, x4), (i5, x5), (i6, x6), (i7, x7), (i8, x8), (i9, x9)].map fun (p : Nat × Operand) => (p.1, a.eval p.2)).toList = [(i0, v0), (i1, v1), (i2, v2), (i3, v3), (i4, v4), (i5, v5), (i6, v6), (i7, v7), (i8, v8), (i9, v9)] := by simp [f.ev h0, f.ev h1, f.ev h2, f.ev h3, f.ev h4, f.ev h5, f.ev h6, f.ev h7, f.ev h8, f.ev h9]
theorem parts11 (f : Fr n a l) {i0 i1 i2 i3 i4 i5 i6 i7 i8 i9 i10 : Nat} {x0 x1 x2 x3 x4 x5 x6 x7 x8 x9 x10 : Operand} {v0 v1 v2 v3 v4 v5 v6 v7 v8 v9 v10 : Value} (h0 : evl l x0 = some v0) (h1 : evl l x1 = some v1) (h2 : evl l x2 = some v2) (h3 : evl l x3 = some v3) (h4 : evl l x4 = some v4) (h5 : evl l x5 = some v5) (h6 : evl l x6 = some v6) (h7 : evl l x7 = some v7) (h8 : evl l x8 = some v8) (h9 : evl l x9 = some v9) (h10 : evl l x10 = some v10) : (#[(i0, x0), (i1, x1), (i2, x2), (i3, x3), (i4, x4), (i5, x5), (i6, x6), (i7, x7), (i8, x8), (i9, x9), (i10, x10)].map fun (p : Nat × Operand) => (p.1, a.eval p.2)).toList = [(i0, v0), (i1, v1), (i2, v2), (i3, v3), (i4, v4), (i5, v5), (i6, v6), (i7, v7), (i8, v8), (i9, v9), (i10, v10)] := by simp [f.ev h0, f.ev h1, f.ev h2, f.ev h3, f.ev h4, f.ev h5, f.ev h6, f.ev h7, f.ev h8, f.ev h9, f.ev h10]
theorem parts12 (f : Fr n a l) {i0 i1 i2 i3 i4 i5 i6 i7 i8 i9 i10 i11 : Nat} {x0 x1 x2 x3 x4 x5 x6 x7 x8 x9 x10 x11 : Operand} {v0 v1 v2 v3 v4 v5 v6 v7 v8 v9 v10 v11 : Value} (h0 : evl l x0 = some v0) (h1 : evl l x1 = some v1) (h2 : evl l x2 = some v2) (h3 : evl l x3 = some v3) (h4 : evl l x4 = some v4) (h5 : evl l x5 = some v5) (h6 : evl l x6 = some v6) (h7 : evl l x7 = some v7) (h8 : evl l x8 = some v8) (h9 : evl l x9 = some v9) (h10 : evl l x10 = some v10) (h11 : evl l x11 = some v11) : (#[(i0, x0), (i1, x1), (i2, x2), (i3, x3), (i4, x4), (i5, x5), (i6, x6), (i7, x7), (i8, x8), (i9, x9), (i10, x10), (i11, x11)].map fun (p : Nat × Operand) => (p.1, a.eval p.2)).toList = [(i0, v0), (i1, v1), (i2, v2), (i3, v3), (i4, v4), (i5, v5), (i6, v6), (i7, v7), (i8, v8), (i9, v9), (i10, v10), (i11, v11)] := by simp [f.ev h0, f.ev h1, f.ev h2, f.ev h3, f.ev h4, f.ev h5, f.ev h6, f.ev h7, f.ev h8, f.ev h9, f.ev h10, f.ev h11]
theorem parts13 (f : Fr n a l) {i0 i1 i2 i3 i4 i5 i6 i7 i8 i9 i10 i11 i12 : Nat} {x0 x1 x2 x3 x4 x5 x6 x7 x8 x9 x10 x11 x12 : Operand} {v0 v1 v2 v3 v4 v5 v6 v7 v8 v9 v10 v11 v12 : Value} (h0 : evl l x0 = some v0) (h1 : evl l x1 = some v1) (h2 : evl l x2 = some v2) (h3 : evl l x3 = some v3) (h4 : evl l x4 = some v4) (h5 : evl l x5 = some v5) (h6 : evl l x6 = some v6) (h7 : evl l x7 = some v7) (h8 : evl l x8 = some v8) (h9 : evl l x9 = some v9) (h10 : evl l x10 = some v10) (h11 : evl l x11 = some v11) (h12 : evl l x12 = some v12) : (#[(i0, x0), (i1, x1), (i2, x2), (i3, x3), (i4, x4), (i5, x5), (i6, x6), (i7, x7), (i8, x8), (i9, x9), (i10, x10), (i11, x11), (i12, x12)].map fun (p : Nat × Operand) => (p.1, a.eval p.2)).toList = [(i0, v0), (i1, v1), (i2, v2), (i3, v3), (i4, v4), (i5, v5), (i6, v6), (i7, v7), (i8, v8), (i9, v9), (i10, v10), (i11, v11), (i12, v12)] := by simp [f.ev h0, f.ev h1, f.ev h2, f.ev h3, f.ev h4, f.ev h5, f.ev h6, f.ev h7, f.ev h8, f.ev h9, f.ev h10, f.ev h11, f.ev h12]
end
end Go.Hub
