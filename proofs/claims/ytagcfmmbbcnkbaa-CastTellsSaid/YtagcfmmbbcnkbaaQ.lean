/- CastTells: laws of the walk (three packets in a row; guarded loads). -/
import Derived.Test.YtagcfmmbbcnkbaaPackF
import Derived.Test.YtagcfmmbbcnkbaaSame
import Derived.Test.YtagcfmmbbcnkbaaJ
import Derived.Test.YtagcfmmbbcnkbaaI
import Derived.Great.BuildSlice
set_option linter.all false
namespace Go.Proofs.Ytagcfmmbbcnkbaa
open Go.RowKit Go.Hub

theorem info28t : (Try.prog.info? 28).map (fun i => (i.zero, i.size, i.bytes)) = some (some (.agg zeroPk), 24, 288) := by kernel_rfl
theorem builtT (k a : Int) : Try.prog.built 28 [(0, .int .i64 k), (4, .int .i64 a), (5, .string ⟨#[116]⟩)] = some (Pk.cells { kind := k, id := a, topic := ⟨#[116]⟩ } s0) := by kernel_rfl
theorem slice3 (p q r : Pk) (s t u : Ad) : Instr.fill (fun i => some (i * 24, 24)) ((Array.range (3 * 24)).map (zeroPk[· % zeroPk.size]!)) [(0, .agg (p.cells s)), (1, .agg (q.cells t)), (2, .agg (r.cells u))] = some (p.cells s ++ q.cells t ++ r.cells u) := by kernel_rfl
theorem wpList_slice_three {ops : Array Oper} {rest : List Oper} {o : Oper} {a : Act} {w : World} {Q : Exit → Act → World → Prop} (hg : o.guard = none) (x y z : Operand) (ho : o.op = .buildSlice 32 3 #[(0, x), (1, y), (2, z)]) (p q r : Pk) (s t u : Ad)
    (hx : a.eval x = .agg (p.cells s)) (hy : a.eval y = .agg (q.cells t)) (hz : a.eval z = .agg (r.cells u))
    (h : wpList Try.prog ops Q rest (a.put o.dst (.slice (some ⟨w.heap.size, 0, none⟩) 3 3)) (w.alloc (.cells (p.cells s ++ q.cells t ++ r.cells u) 28))) : wpList Try.prog ops Q (o :: rest) a w := by
  obtain ⟨ie, h1, h2, h3, _⟩ := info_parts info28t
  refine wpList_buildSlice hg 32 28 3 #[(0, x), (1, y), (2, z)] ho (p.cells s ++ q.cells t ++ r.cells u) ie (.agg zeroPk) Try.underlying32 h1 h2 (by rw [h3]; decide) (by rw [h3]; decide) ?_ h
  rw [h3]
  have e : (((#[(0, x), (1, y), (2, z)] : Array (Nat × Operand)).map fun (i, x) => (i, a.eval x))).toList = [(0, .agg (p.cells s)), (1, .agg (q.cells t)), (2, .agg (r.cells u))] := by simp [hx, hy, hz]
  rw [e]
  exact slice3 p q r s t u
theorem row24 (p : Pk) (s : Ad) (w : World) (g : Nat) (h : Blk w g 28 (p.cells s)) : w.cell? ⟨g, 0, none⟩ = some (.int .i64 p.kind) ∧
  w.cell? ⟨g, 1, none⟩ = some (.bool p.dup) ∧
  w.cell? ⟨g, 2, none⟩ = some (.bool p.retain) ∧
  w.cell? ⟨g, 3, none⟩ = some (.int .i64 p.qos) ∧
  w.cell? ⟨g, 4, none⟩ = some (.int .i64 p.id) ∧
  w.cell? ⟨g, 5, none⟩ = some (.string p.topic) ∧
  w.cell? ⟨g, 6, none⟩ = some (.slice s.pa p.pay.length s.pc) ∧
  w.cell? ⟨g, 7, none⟩ = some (.int .i64 p.level) ∧
  w.cell? ⟨g, 8, none⟩ = some (.string p.client) ∧
  w.cell? ⟨g, 9, none⟩ = some (.bool p.clean) ∧
  w.cell? ⟨g, 10, none⟩ = some (.int .i64 p.keep) ∧
  w.cell? ⟨g, 11, none⟩ = some (.bool p.hasWill) ∧
  w.cell? ⟨g, 12, none⟩ = some (.string p.wt) ∧
  w.cell? ⟨g, 13, none⟩ = some (.slice s.wa p.wp.length s.wc) ∧
  w.cell? ⟨g, 14, none⟩ = some (.int .i64 p.wq) ∧
  w.cell? ⟨g, 15, none⟩ = some (.bool p.wr) ∧
  w.cell? ⟨g, 16, none⟩ = some (.bool p.hasUser) ∧
  w.cell? ⟨g, 17, none⟩ = some (.bool p.hasPass) ∧
  w.cell? ⟨g, 18, none⟩ = some (.string p.user) ∧
  w.cell? ⟨g, 19, none⟩ = some (.slice s.sa p.pass.length s.sc) ∧
  w.cell? ⟨g, 20, none⟩ = some (.bool p.present) ∧
  w.cell? ⟨g, 21, none⟩ = some (.int .i64 p.code) ∧
  w.cell? ⟨g, 22, none⟩ = some (.slice s.ua p.subs.length s.uc) ∧
  w.cell? ⟨g, 23, none⟩ = some (.slice s.ca p.codes.length s.cc) :=
  ⟨h.cell_ (i := 0) rfl, h.cell_ (i := 1) rfl, h.cell_ (i := 2) rfl, h.cell_ (i := 3) rfl, h.cell_ (i := 4) rfl, h.cell_ (i := 5) rfl, h.cell_ (i := 6) rfl, h.cell_ (i := 7) rfl, h.cell_ (i := 8) rfl, h.cell_ (i := 9) rfl, h.cell_ (i := 10) rfl, h.cell_ (i := 11) rfl, h.cell_ (i := 12) rfl, h.cell_ (i := 13) rfl, h.cell_ (i := 14) rfl, h.cell_ (i := 15) rfl, h.cell_ (i := 16) rfl, h.cell_ (i := 17) rfl, h.cell_ (i := 18) rfl, h.cell_ (i := 19) rfl, h.cell_ (i := 20) rfl, h.cell_ (i := 21) rfl, h.cell_ (i := 22) rfl, h.cell_ (i := 23) rfl⟩
/-- block g shows three packets, all small -/
def Trio (B : Nat) (w : World) (g : Nat) : Prop := ∀ i, i < 3 → ∃ p s, (∀ j v, (Pk.cells p s)[j]? = some v → w.cell? ⟨g, i * 24 + j, none⟩ = some v) ∧ p.Ok EP B w s ∧ Light p
theorem Trio.old {B : Nat} {w w' : World} {g : Nat} (h : Trio B w g) (hg : g < w.heap.size) (hb : Below w.heap.size w w') : Trio B w' g := fun i hi => by
  obtain ⟨p, s, h1, h2, h3⟩ := h i hi
  exact ⟨p, s, fun j v hv => (hb.cell (p := ⟨g, i * 24 + j, none⟩) hg).trans (h1 j v hv), h2.old hb, h3⟩
theorem trio_new (B : Nat) (w : World) (p q r : Pk) (s t u : Ad) (hp : p.Ok EP B w s) (hq : q.Ok EP B w t) (hr : r.Ok EP B w u) (lp : Light p) (lq : Light q) (lr : Light r) : Trio B (w.alloc (.cells (p.cells s ++ q.cells t ++ r.cells u) 28)) w.heap.size := by
  have b0 : Below w.heap.size w (w.alloc (.cells (p.cells s ++ q.cells t ++ r.cells u) 28)) := (Below.refl _ _).alloc (Nat.le_refl _) _
  have z1 : ∀ (p : Pk) (s : Ad), (p.cells s).size = 24 := fun _ _ => rfl
  have lt : ∀ (p : Pk) (s : Ad) j v, (p.cells s)[j]? = some v → j < 24 := fun p s j v h => by
    have := (Array.getElem?_eq_some_iff.1 h).1
    rwa [z1] at this
  intro i hi
  match i, hi with
  | 0, _ =>
    refine ⟨p, s, fun j v h => ?_, hp.old b0, lp⟩
    have := lt p s j v h
    rw [World.cell?_alloc_new]
    rw [Array.append_assoc, Array.getElem?_append_left (by rw [z1]; omega)]
    simpa using h
  | 1, _ =>
    refine ⟨q, t, fun j v h => ?_, hq.old b0, lq⟩
    have := lt q t j v h
    rw [World.cell?_alloc_new]
    rw [Array.getElem?_append_left (by rw [Array.size_append, z1, z1]; omega), Array.getElem?_append_right (by rw [z1]; omega), z1]
    simpa using h
  | 2, _ =>
    refine ⟨r, u, fun j v h => ?_, hr.old b0, lr⟩
    have := lt r u j v h
    rw [World.cell?_alloc_new]
    rw [Array.getElem?_append_right (by rw [Array.size_append, z1, z1]; omega), Array.size_append, z1, z1]
    simpa using h
end Go.Proofs.Ytagcfmmbbcnkbaa
