/- What the argument of NetPlays reads as, and small laws for its walk. -/
import Derived.Test.YtmffkpcimddbpaaH
import Derived.Test.YtmffkpcimddbpaaArgs
set_option linter.all false
namespace Go.Proofs.Ytmffkpcimddbpaa
open Go.RowKit Go.Hub Go.ChangeShapes Go.WideShapes Go.Deep

/-- an act -/
structure Ac where
  k : Int
  f : Int
  t : Int
  n : Int
  b : List UInt8
def relA (w : World) (cs : List Value) (a : Ac) : Prop :=
  ∃ A c, cs = [.int .u8 a.k, .int .i64 a.f, .int .i64 a.t, .int .i64 a.n, .slice A a.b.length c] ∧ Bs [5] w.heap.size w A a.b.length a.b ∧ (0 ≤ a.k ∧ a.k ≤ 255) ∧ a.b.length ≤ maxLen

section
variable {H : Type} {enc : TypeId × Value → H} {w : World} {spare : Nat → Bool} {held : Bool}
theorem open_act (n : Nat) (cs : List Value) (y : DataW H × List MemPlace) (h : DataW.trod enc Try.prog w 0 spare held n 29 cs = some y) : ∃ a, relA w cs a := by
  obtain ⟨ys, n', _, _, hcl, hyl, hf⟩ := DataW.trod_struct Try.underlying29 h
  have hcells : Try.prog.cellsOf 29 = 5 := by kernel_rfl
  rw [hcells] at hcl
  match cs, hcl with
  | [v0, v1, v2, v3, v4], _ =>
    have c5 : Try.prog.cellsOf 5 = 1 := by kernel_rfl
    have c27 : Try.prog.cellsOf 27 = 1 := by kernel_rfl
    have c3 : Try.prog.cellsOf 3 = 1 := by kernel_rfl
    have f0 : DataW.trod enc Try.prog w 0 spare held n' 5 [v0] = ys[0]? := by have := hf 0 _ rfl; simpa [c5] using this
    have f1 : DataW.trod enc Try.prog w 0 spare held n' 3 [v1] = ys[1]? := by have := hf 1 _ rfl; simpa [c3] using this
    have f2 : DataW.trod enc Try.prog w 0 spare held n' 3 [v2] = ys[2]? := by have := hf 2 _ rfl; simpa [c3] using this
    have f3 : DataW.trod enc Try.prog w 0 spare held n' 3 [v3] = ys[3]? := by have := hf 3 _ rfl; simpa [c3] using this
    have f4 : DataW.trod enc Try.prog w 0 spare held n' 27 [v4] = ys[4]? := by have := hf 4 _ rfl; simpa [c27] using this
    have l5 : ys.length = 5 := hyl
    rw [List.getElem?_eq_getElem (by omega)] at f0 f1 f2 f3 f4
    obtain ⟨k, e0, _, hk⟩ := DataW.trod_int Try.underlying5 f0
    obtain ⟨f, e1, _, _⟩ := DataW.trod_int Try.underlying3 f1
    obtain ⟨t, e2, _, _⟩ := DataW.trod_int Try.underlying3 f2
    obtain ⟨m, e3, _, _⟩ := DataW.trod_int Try.underlying3 f3
    obtain ⟨A, c, l, e4, hl, hb⟩ := open_bytes [5] Try.underlying27 Try.underlying5 (by kernel_rfl) f4
    simp at e0 e1 e2 e3 e4
    subst e0 e1 e2 e3 e4
    exact ⟨⟨k, f, t, m, l⟩, A, c, rfl, hb, bd_u8 hk, hl⟩
def IsActs (w : World) (v : Value) : Prop := ∃ A len cap xs ms, v = .slice A len cap ∧ len ≤ cap ∧ cap ≤ maxLen ∧ ms.length = len ∧ Rds w w.heap.size 5 A len xs ∧ Seq 5 (relA w) xs ms
theorem open_acts {r : Reach} {b0 : Nat} {v : Value} {d : DataW H} {p : List MemPlace} (hv : Value.okWide Try.prog w r b0 22 v) (h : DataW.Trod enc Try.prog w 0 spare held 22 v d p) : IsActs w v :=
  open_seq (by kernel_rfl) (by omega) Try.underlying22 (okWide_slice Try.underlying22 hv) h open_act
end

/-- the i-th act's cells -/
theorem act_cells {n i : Nat} {A0 : Option Addr} {a : Ac} {ms : List Ac} {w : World} {xs : List Value} (hn : ms.length = n) (ho : Rds w w.heap.size 5 A0 n xs) (hs : Seq 5 (relA w) xs ms) (hm : ms[i]? = some a) :
    ∃ g off A1 c1, A0 = some ⟨g, off, none⟩ ∧ g < w.heap.size ∧ w.cell? ⟨g, off + i * 5, none⟩ = some (.int .u8 a.k) ∧ w.cell? ⟨g, off + i * 5 + 1, none⟩ = some (.int .i64 a.f) ∧ w.cell? ⟨g, off + i * 5 + 2, none⟩ = some (.int .i64 a.t) ∧
      w.cell? ⟨g, off + i * 5 + 3, none⟩ = some (.int .i64 a.n) ∧ w.cell? ⟨g, off + i * 5 + 4, none⟩ = some (.slice A1 a.b.length c1) ∧ Bs [5] w.heap.size w A1 a.b.length a.b ∧ (0 ≤ a.k ∧ a.k ≤ 255) ∧ a.b.length ≤ maxLen := by
  have hl : i < ms.length := (List.getElem?_eq_some_iff.1 hm).1
  obtain ⟨cs, ⟨A1, c1, rfl, hb, hk, hl2⟩, hc⟩ := hs.at_ hm
  obtain ⟨g, off, rfl, hg, hcell⟩ := ho.2 (by omega)
  refine ⟨g, off, A1, c1, rfl, hg, ?_, ?_, ?_, ?_, ?_, hb, hk, hl2⟩
  · have := hcell (i * 5 + 0) _ (hc 0 _ rfl); simpa using this
  · have := hcell (i * 5 + 1) _ (hc 1 _ rfl); simpa [Nat.add_assoc] using this
  · have := hcell (i * 5 + 2) _ (hc 2 _ rfl); simpa [Nat.add_assoc] using this
  · have := hcell (i * 5 + 3) _ (hc 3 _ rfl); simpa [Nat.add_assoc] using this
  · have := hcell (i * 5 + 4) _ (hc 4 _ rfl); simpa [Nat.add_assoc] using this

/-- the net holds ms, the law's own row ns -/
structure SP (B : Nat) (w wr : World) (b : Nat) (ms : List F) (v : Value) (mask : Int) (ns : List F) (lv : Value) : Prop where
  q : IsN B wr b v mask ms
  o : ∃ ys, Own wr 33 3 lv ns.length ys ∧ Seq 3 (relF [5] B wr) ys ns
  a : ∀ k, lv.ownBlock = some k → B ≤ k ∧ k ∉ b :: v.ownBlock.toList
  s : Same [5] B w wr
section
variable {B b : Nat} {w wr wx : World} {ms ms' ns ns' : List F} {v v' lv lv' : Value} {mask mask' : Int}
theorem SP.old (h : SP B w wr b ms v mask ns lv) (hb : Below wr.heap.size wr wx) : SP B w wx b ms v mask ns lv := by
  obtain ⟨h1, ⟨ys, h2, h3⟩, h4, h5⟩ := h
  exact ⟨h1.old hb, ⟨ys, h2.kept (Kept.of_below hb []) (by simp), h3.imp fun cs m h => h.old hb⟩, h4, h5.trans (.of_below hb)⟩
theorem SP.drew (h : SP B w wr b ms v mask ns lv) : SP B w wr.drew b ms v mask ns lv := h.old ⟨rfl, rfl, rfl, Nat.le_refl _, fun _ _ => rfl⟩
theorem SP.form (h : SP B w wr b ms v mask ns lv) : ∃ A c, lv = .slice A ns.length c ∧ ns.length ≤ c ∧ c ≤ maxLen := by
  obtain ⟨_, ⟨ys, h2, _⟩, _⟩ := h
  exact h2.form
/-- the net turned by a call, the law's row untouched by it -/
theorem SP.call (h : SP B w wr b ms v mask ns lv) (q : IsN B wx b v' mask' ms') (hk : Kept (b :: v.ownBlock.toList) wr wx) (hs : Same [5] B wr wx) (ha : ∀ k, v'.ownBlock = some k → v.ownBlock = some k ∨ wr.heap.size ≤ k) : SP B w wx b ms' v' mask' ns lv := by
  obtain ⟨h1, ⟨ys, h2, h3⟩, h4, h5⟩ := h
  refine ⟨q, ⟨ys, h2.kept hk (fun k hk' => (h4 k hk').2), h3.imp fun cs m h => h.same hs⟩, fun k hk' => ⟨(h4 k hk').1, fun hx => ?_⟩, h5.trans hs⟩
  have hn := (h4 k hk').2
  simp at hx hn
  rcases hx with hx | hx
  · exact hn.1 hx
  · rcases ha k hx with hx | hx
    · exact hn.2 hx
    · have := (h2.blk k hk').1; omega
/-- the law's row turned -/
theorem SP.row (h : SP B w wr b ms v mask ns lv) (hk : Kept lv.ownBlock.toList wr wx) {ys' : List Value} (o : Own wx 33 3 lv' ns'.length ys') (hs : Seq 3 (relF [5] B wx) ys' ns') (ha : ∀ k, lv'.ownBlock = some k → lv.ownBlock = some k ∨ wr.heap.size ≤ k) : SP B w wx b ms v mask ns' lv' := by
  obtain ⟨h1, ⟨ys, h2, h3⟩, h4, h5⟩ := h
  have S : Same [5] B wr wx := .of_kept hk (fun x hx _ => by
    have hx' : lv.ownBlock = some x := by simpa using hx
    obtain ⟨_, cs, hcs⟩ := h2.blk x hx'
    exact ⟨(h4 x hx').1, not_typ_of hcs (by decide)⟩)
  refine ⟨h1.kept hk S (fun x hx hy => ?_), ⟨ys', o, hs⟩, fun k hk' => ?_, h5.trans S⟩
  · exact (h4 x (by simpa using hy)).2 hx
  · rcases ha k hk' with hx | hx
    · exact h4 k hx
    · refine ⟨by have := h1.foot b (by simp); omega, fun hy => ?_⟩
      have := (h1.foot k hy).2
      omega
/-- a store into another block -/
theorem SP.store (h : SP B w wr b ms v mask ns lv) {t : Nat} (hk : Kept [t] wr wx) (hs : Same [5] B wr wx) (h1 : ∀ x ∈ b :: v.ownBlock.toList, x ≠ t) (h2 : ∀ k, lv.ownBlock = some k → k ≠ t) : SP B w wx b ms v mask ns lv := by
  obtain ⟨q, ⟨ys, o, sy⟩, a, s⟩ := h
  exact ⟨q.kept hk hs (fun x hx hy => h1 x hx (by simpa using hy)), ⟨ys, o.kept hk (fun k hk' hy => h2 k hk' (by simpa using hy)), sy.imp fun cs m h => h.same hs⟩, a, s.trans hs⟩
/-- the row's blocks are old -/
theorem SP.lt (h : SP B w wr b ms v mask ns lv) : ∀ k, lv.ownBlock = some k → k < wr.heap.size := by
  obtain ⟨q, ⟨ys, o, sy⟩, a, s⟩ := h
  exact fun k hk => (o.blk k hk).1
theorem SP.row_same (h : SP B w wr b ms v mask ns lv) (hk : Kept lv.ownBlock.toList wr wx) : Same [5] B wr wx := by
  obtain ⟨h1, ⟨ys, h2, h3⟩, h4, h5⟩ := h
  exact .of_kept hk (fun x hx _ => by
    have hx' : lv.ownBlock = some x := by simpa using hx
    obtain ⟨_, cs, hcs⟩ := h2.blk x hx'
    exact ⟨(h4 x hx').1, not_typ_of hcs (by decide)⟩)
end
end Go.Proofs.Ytmffkpcimddbpaa
