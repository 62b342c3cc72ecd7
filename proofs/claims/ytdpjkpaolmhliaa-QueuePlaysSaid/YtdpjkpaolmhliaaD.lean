/- The contract of the reference's Push. -/
import Derived.Test.YtdpjkpaolmhliaaC
set_option linter.all false
namespace Go.Proofs.Ytdpjkpaolmhliaa
open Go.RowKit Go.Hub

set_option maxHeartbeats 1000000 in
theorem pushR_any (B b : Nat) (v : Value) (most lost : Int) (ms : List M) (A : Option Addr) (c : Nat) (m : M) (w : World) (h : IsR B w b v most lost ms) (hm : Bs [5] B w A m.p.length m.p)
    (hB : B ≤ w.heap.size) (hmost : most ≤ 65536) (hlost : 0 ≤ lost ∧ lost ≤ 1000000) :
    Calls Try.prog 10 #[.pointer (some ⟨b, 0, none⟩), .agg #[.string m.t, .slice A m.p.length c, .int .i64 m.q, .bool m.r]] w fun e w' => e = .returned (.bool (decide ((ms.length : Int) < most))) ∧
      ∃ v', IsR B w' b v' most (pushN most ms lost) (pushL most ms m) ∧ Kept (b :: v.ownBlock.toList) w w' ∧ Same [5] B w w' ∧ (∀ k, v'.ownBlock = some k → v.ownBlock = some k ∨ w.heap.size ≤ k) := by
  obtain ⟨hb, hb1, hb2, xs, ho, hs⟩ := h
  obtain ⟨A0, c0, rfl, hc1, hc2⟩ := ho.form
  have bl := hb.lt
  have hbox := Blk.new w 27 #[Value.string m.t, Value.slice A m.p.length c, Value.int IntKind.i64 m.q, Value.bool m.r]
  have hb' := hb.alloc (.cells #[Value.string m.t, Value.slice A m.p.length c, Value.int IntKind.i64 m.q, Value.bool m.r] 27)
  have e0 := hb.cell_ (i := 0) rfl
  have e1 := hb.cell_ (i := 1) rfl
  have e2 := hb.cell_ (i := 2) rfl
  by_cases hfull : (ms.length : Int) < most
  · have R : pushN most ms lost = lost ∧ pushL most ms m = ms ++ [m] ∧ decide ((ms.length : Int) < most) = true := by
      unfold pushN pushL; rw [if_pos hfull, if_pos hfull]; simpa using hfull
    rw [R.1, R.2.1, R.2.2]
    obtain ⟨i0, hi0, hz0, hz1, hz2⟩ := info_parts info27
    have hlen : ms.length ≤ 65536 := by omega
    have HH := hid (And.intro (And.intro hb (And.intro hb1 hb2)) (And.intro (And.intro ho hs) hm))
    clear hb ho hs hm hb1 hb2 R
    go_enter Try.func10, Try.ntmps10
    go_wp2
    go_quiet (fail)
    go_wp2
    obtain ⟨W, hW⟩ : ∃ W, W = ((w.alloc (Obj.cells #[Value.string m.t, Value.slice A m.p.length c, Value.int IntKind.i64 m.q, Value.bool m.r] 27)).drewN nq) := ⟨_, rfl⟩
    rw [← hW]
    have hWk : Kept [] w W.drew := by rw [hW]; exact (((Kept.refl _ _).alloc _).drewN _).drew
    have xW : Blk W.drew w.heap.size 27 #[Value.string m.t, Value.slice A m.p.length c, Value.int IntKind.i64 m.q, Value.bool m.r] := by rw [hW]; exact hbox
    have hsz : W.heap.size = w.heap.size + 1 := by rw [hW]; simp
    clear hW hbox hb'
    have bW : Blk W.drew b 40 #[.int .i64 most, .int .i64 lost, Value.slice A0 ms.length c0] := HH.out.1.1.kept hWk (by simp)
    have oW := HH.out.2.1.1.kept hWk (by simp)
    have nb : ∀ k, (Value.slice A0 ms.length c0).ownBlock = some k → k ≠ b := fun k hk => by
      obtain ⟨_, cs, hcs⟩ := HH.out.2.1.1.blk k hk
      exact row_ne_struct (t := 40) hcs HH.out.1.1 (by decide)
    have g0 : W.cell? ⟨b, 2, none⟩ = _ := bW.cell_ (i := 2) rfl
    have x0 : W.cell? ⟨w.heap.size, 0, none⟩ = _ := xW.cell_ (i := 0) rfl
    have x1 : W.cell? ⟨w.heap.size, 1, none⟩ = _ := xW.cell_ (i := 1) rfl
    have x2 : W.cell? ⟨w.heap.size, 2, none⟩ = _ := xW.cell_ (i := 2) rfl
    have x3 : W.cell? ⟨w.heap.size, 3, none⟩ = _ := xW.cell_ (i := 3) rfl
    have hb63 : ms.length + 1 ≤ maxLen := by unfold maxLen; omega
    have hbytes : (ms.length + 1) * 56 ≤ 140737488355328 := by omega
    have b1 : Blk ((W.alloc (.cells #[Value.string m.t, Value.slice A m.p.length c, Value.int IntKind.i64 m.q, Value.bool m.r] 27)).drew) b 40 #[.int .i64 most, .int .i64 lost, Value.slice A0 ms.length c0] := (show Blk W b 40 _ from bW).alloc (.cells #[Value.string m.t, Value.slice A m.p.length c, Value.int IntKind.i64 m.q, Value.bool m.r] 27)
    have o1 : Own ((W.alloc (.cells #[Value.string m.t, Value.slice A m.p.length c, Value.int IntKind.i64 m.q, Value.bool m.r] 27)).drew) 27 4 (.slice A0 ms.length c0) ms.length xs := (show Own W 27 4 _ _ _ from oW).alloc (.cells #[Value.string m.t, Value.slice A m.p.length c, Value.int IntKind.i64 m.q, Value.bool m.r] 27)
    have r1 : Rds ((W.alloc (.cells #[Value.string m.t, Value.slice A m.p.length c, Value.int IntKind.i64 m.q, Value.bool m.r] 27)).drew) (w.heap.size + 1 + 1) 4 (some ⟨w.heap.size + 1, 0, none⟩) 1 [Value.string m.t, Value.slice A m.p.length c, Value.int IntKind.i64 m.q, Value.bool m.r] := by
      rw [← hsz]; exact Rds.boxed W #[Value.string m.t, Value.slice A m.p.length c, Value.int IntKind.i64 m.q, Value.bool m.r] 27 4 rfl
    have y0 : (W.alloc (.cells #[Value.string m.t, Value.slice A m.p.length c, Value.int IntKind.i64 m.q, Value.bool m.r] 27)).cell? ⟨b, 2, none⟩ = _ := b1.cell_ (i := 2) rfl
    clear e0 e1 e2
    go_region_law (first
      | (refine step_append_own _ rfl (.tmp 26) (.tmp 28) _ rfl 27 i0 _ 4 56 Try.underlying22 hi0 hz0 hz1 hz2 rfl (by omega) (.slice A0 ms.length c0) ms.length xs rfl o1 _ _ _ _ _ rfl r1 (by simp [Value.oneCell']) hb63 hbytes ?_; intro v2 w2 o2 k2 at2; obtain ⟨A2, c2, hv2, hc3, hc4⟩ := o2.form; subst hv2; have b2 := b1.kept k2 (fun hx => nb _ (by simpa using hx) rfl); have z0 := b2.cell_ (i := 2) rfl; have z1 := b2.frozen 2))
    all_goals go_wp2
    all_goals go_ret
    all_goals
      have k1 : Kept [] w ((W.alloc (.cells #[Value.string m.t, Value.slice A m.p.length c, Value.int IntKind.i64 m.q, Value.bool m.r] 27)).drew) := ((⟨hWk.os, hWk.tape, hWk.output, hWk.size, hWk.block⟩ : Kept [] w W).alloc _).drew
      have P := push_parts (i := 2) (m := m) HH.out.1.2.1 HH.out.1.2.2 HH.out.1.1 (by decide) HH.out.2.1.1 HH.out.2.1.2 k1 o2 k2 at2 ⟨A, c, rfl, HH.out.2.2.same (.of_kept k1 (by simp))⟩ rfl hB
      exact ⟨rfl, _, ⟨P.1, HH.out.1.2.1, P.2.1, _, P.2.2.1, P.2.2.2.1⟩, P.2.2.2.2.1, P.2.2.2.2.2.1, P.2.2.2.2.2.2⟩
  · have R : pushN most ms lost = lost + 1 ∧ pushL most ms m = ms ∧ decide ((ms.length : Int) < most) = false := by
      unfold pushN pushL; rw [if_neg hfull, if_neg hfull]; simpa using hfull
    rw [R.1, R.2.1, R.2.2]
    have fr2 := hb'.frozen 1
    have g2 := hb'.cell_ (i := 1) rfl
    have fin : ∀ (o : Obj) (k : Nat), IsR B (((w.alloc o).drewN k).setCell ⟨b, 1, none⟩ (.int .i64 (lost + 1))) b (.slice A0 ms.length c0) most (lost + 1) ms ∧ Kept [b] w (((w.alloc o).drewN k).setCell ⟨b, 1, none⟩ (.int .i64 (lost + 1))) ∧
        Same [5] B w (((w.alloc o).drewN k).setCell ⟨b, 1, none⟩ (.int .i64 (lost + 1))) := fun o k => by
      have K : Kept [b] w (((w.alloc o).drewN k).setCell ⟨b, 1, none⟩ (.int .i64 (lost + 1))) := (((Kept.refl _ _).alloc _).drewN _).setCell (by simp) _
      have S : Same [5] B w (((w.alloc o).drewN k).setCell ⟨b, 1, none⟩ (.int .i64 (lost + 1))) := .of_kept K (fun x hx _ => by
        simp at hx; subst hx
        exact ⟨hb1, hb.not_typ (by simp)⟩)
      refine ⟨⟨((hb.alloc o).drewN k).set_ 1 _, hb1, hb2, xs, ho.kept K (fun g hg hx => ?_), hs.imp fun cs m h => h.same S⟩, K, S⟩
      obtain ⟨_, cs, hcs⟩ := ho.blk g hg
      exact row_ne_struct (t := 40) hcs hb (by decide) (by simpa using hx)
    have FF := hid fin
    clear hb ho hs hm hb1 hb2 R hbox hb' fin
    go_enter Try.func10, Try.ntmps10
    go_wp2
    go_quiet (fail)
    go_wp2
    go_ret
    exact ⟨rfl, _, (FF.out _ _).1, (FF.out _ _).2.1.mono (fun x hx _ => by simp at hx; subst hx; simp), (FF.out _ _).2.2, fun k hk => .inl hk⟩
end Go.Proofs.Ytdpjkpaolmhliaa
