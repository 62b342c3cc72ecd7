/- Small laws for QueuePlays' walk: the pair of queues over calls that write nothing old. -/
import Derived.Test.YtdpjkpaolmhliaaK
set_option linter.all false
namespace Go.Proofs.Ytdpjkpaolmhliaa
open Go.RowKit Go.Hub

theorem undrew {B : Nat} {w w' : World} (h : Below B w.drew w') : Below B w w' := ⟨h.os, h.tape, h.output, h.size, h.block⟩
theorem same_undrew {E : List TypeId} {B : Nat} {w w' : World} (h : Same E B w.drew w') : Same E B w w' := ⟨h.os, h.tape, h.output, h.size, h.block⟩
theorem Two.below {w wr w' : World} {b b2 : Nat} {v v2 : Value} {k lost : Int} {ms : List M} {n : Nat} (h : Two w wr b b2 v v2 k lost ms n) (hb : Below wr.heap.size wr w') : Two w w' b b2 v v2 k lost ms n :=
  ⟨h.q.kept (Kept.of_below hb []) (.of_below hb) (by simp), h.r.kept (Kept.of_below hb []) (.of_below hb) (by simp), h.a, h.s.trans (.of_below hb), h.p, h.l, h.g⟩
theorem Two.pop {w wr w5 w6 : World} {b b2 : Nat} {v v2 v5 v6 : Value} {k lost : Int} {m : M} {r : List M} {n : Nat} (h : Two w wr b b2 v v2 k lost (m :: r) n)
    (q5 : IsQ w.heap.size w5 b v5 k lost r) (k5 : Kept (b :: v.ownBlock.toList) wr w5) (s5 : Same [5] w.heap.size wr w5) (a5 : ∀ x, v5.ownBlock = some x → v.ownBlock = some x ∨ wr.heap.size ≤ x)
    (r6 : IsR w.heap.size w6 b2 v6 k lost r) (k6 : Kept (b2 :: v2.ownBlock.toList) w5 w6) (s6 : Same [5] w.heap.size w5 w6) (a6 : ∀ x, v6.ownBlock = some x → v2.ownBlock = some x ∨ w5.heap.size ≤ x) : Two w w6 b b2 v5 v6 k lost r n := by
  have ap5 := apt_turn h.a (fun x hx => (h.r.foot x hx).2) a5
  have q6 := q5.kept k6 s6 ap5
  have ap6 := (apt_turn ap5.symm (fun x hx => (q5.foot x hx).2) a6).symm
  exact ⟨q6, r6, ap6, (h.s.trans s5).trans s6, fun x hx => h.p x (List.mem_cons_of_mem _ hx), by have := h.l; simp at this; omega, h.g⟩
end Go.Proofs.Ytdpjkpaolmhliaa
