/- The contracts of Push. -/
import Derived.Test.YtdpjkpaolmhliaaB
set_option linter.all false
namespace Go.Proofs.Ytdpjkpaolmhliaa
open Go.RowKit Go.Hub

def pushL (most : Int) (ms : List M) (m : M) : List M := if (ms.length : Int) < most then ms ++ [m] else ms
def pushN (most : Int) (ms : List M) (lost : Int) : Int := if (ms.length : Int) < most then lost else lost + 1

theorem row_ne_struct {w : World} {g b : Nat} {t : TypeId} {cs cs' : Array Value} (h : w.heap[g]? = some (.cells cs 27 (0, 0))) (hb : Blk w b t cs') (ht : t ≠ 27) : g ≠ b := by
  rintro rfl
  unfold Blk at hb
  rw [h] at hb
  injection hb with hb
  injection hb with _ h2
  exact ht h2.symm

/-- What a push leaves: w1 behind the copying, w2 behind the append, then the struct's slice is stored. -/
theorem push_parts {B b : Nat} {v v2 : Value} {ms : List M} {m : M} {w w1 w2 : World} {xs cs : List Value} {t : TypeId} {sc : Array Value} (hb1 : B ≤ b) (hb2 : ∀ k, v.ownBlock = some k → B ≤ k)
    (hb : Blk w b t sc) (ht : t ≠ 27 ∧ t ≠ 5) (ho : Own w 27 4 v ms.length xs) (hs : Seq 4 (relM [5] B w) xs ms) (k1 : Kept [] w w1) (o2 : Own w2 27 4 v2 (ms.length + 1) (xs ++ cs)) (k2 : Kept v.ownBlock.toList w1 w2)
    (at2 : ∀ k, v2.ownBlock = some k → v.ownBlock = some k ∨ w1.heap.size ≤ k) (hr : relM [5] B w1 cs m) (hl : cs.length = 4) (hB : B ≤ w.heap.size) (i : Nat) :
    Blk (w2.setCell ⟨b, i, none⟩ v2) b t (sc.setIfInBounds i v2) ∧ (∀ k, v2.ownBlock = some k → B ≤ k) ∧ Own (w2.setCell ⟨b, i, none⟩ v2) 27 4 v2 (ms ++ [m]).length (xs ++ cs) ∧ Seq 4 (relM [5] B (w2.setCell ⟨b, i, none⟩ v2)) (xs ++ cs) (ms ++ [m]) ∧
      Kept (b :: v.ownBlock.toList) w (w2.setCell ⟨b, i, none⟩ v2) ∧ Same [5] B w (w2.setCell ⟨b, i, none⟩ v2) ∧ (∀ k, v2.ownBlock = some k → v.ownBlock = some k ∨ w.heap.size ≤ k) := by
  have nb : ∀ k, v.ownBlock = some k → k ≠ b := fun k hk => by
    obtain ⟨_, cs, hcs⟩ := ho.blk k hk
    exact row_ne_struct hcs hb ht.1
  have hbw1 : Blk w1 b t sc := hb.kept k1 (by simp)
  have ho1 : Own w1 27 4 v ms.length xs := ho.kept k1 (by simp)
  have hbw2 : Blk w2 b t sc := hbw1.kept k2 (fun hx => nb b (by simpa using hx) rfl)
  have kk : Kept (b :: v.ownBlock.toList) w w2 := (k1.mono (L' := b :: v.ownBlock.toList) (by simp)).trans k2 (fun x hx _ => List.mem_cons_of_mem _ hx)
  have k3 : Kept (b :: v.ownBlock.toList) w (w2.setCell ⟨b, i, none⟩ v2) := kk.setCell (by simp) _
  have s1 : Same [5] B w w1 := .of_kept k1 (by simp)
  have s2 : Same [5] B w1 w2 := .of_kept k2 (fun x hx hlt => by
    have hx' : v.ownBlock = some x := by simpa using hx
    obtain ⟨_, cs, hcs⟩ := ho1.blk x hx'
    exact ⟨hb2 x hx', not_typ_of hcs (by simp)⟩)
  have s3 : Same [5] B w2 (w2.setCell ⟨b, i, none⟩ v2) := .of_kept (L := [b]) ((Kept.refl _ _).setCell (by simp) _) (fun x hx hlt => by
    simp at hx; subst hx
    exact ⟨hb1, hbw2.not_typ (by simp; exact ht.2)⟩)
  have nb2 : ∀ k, v2.ownBlock = some k → k ≠ b := fun k hk => by
    rcases at2 k hk with h | h
    · exact nb k h
    · have := hbw1.lt; omega
  refine ⟨hbw2.set_ i v2, fun k hk => ?_, ?_, ?_, k3, (s1.trans s2).trans s3, fun k hk => ?_⟩
  · rcases at2 k hk with h | h
    · exact hb2 k h
    · have := k1.size; omega
  · have := o2.of_eq (w' := w2.setCell ⟨b, i, none⟩ v2) (fun k hk => Below.heap_setCell _ _ _ _ (nb2 k hk))
    simpa using this
  · refine Seq.append (hs.imp fun cs m h => h.same ((s1.trans s2).trans s3)) (Seq.one hl (hr.same (s2.trans s3)))
  · rcases at2 k hk with h | h
    · exact .inl h
    · exact .inr (by have := k1.size; omega)

set_option maxHeartbeats 1000000 in
theorem push_any (B b : Nat) (v : Value) (most lost : Int) (ms : List M) (A : Option Addr) (c : Nat) (m : M) (w : World) (h : IsQ B w b v most lost ms) (hm : Bs [5] B w A m.p.length m.p) (hn : m.p.length ≤ 1000000)
    (hB : B ≤ w.heap.size) (hmost : most ≤ 65536) (hlost : 0 ≤ lost ∧ lost ≤ 1000000) :
    Calls Try.prog 9 #[.pointer (some ⟨b, 0, none⟩), .agg #[.string m.t, .slice A m.p.length c, .int .i64 m.q, .bool m.r]] w fun e w' => e = .returned (.bool (decide ((ms.length : Int) < most))) ∧
      ∃ v', IsQ B w' b v' most (pushN most ms lost) (pushL most ms m) ∧ Kept (b :: v.ownBlock.toList) w w' ∧ Same [5] B w w' ∧ (∀ k, v'.ownBlock = some k → v.ownBlock = some k ∨ w.heap.size ≤ k) := by
  obtain ⟨hb, hb1, hb2, xs, ho, hs⟩ := h
  obtain ⟨A0, c0, rfl, hc1, hc2⟩ := ho.form
  have bl := hb.lt
  have hbox := Blk.new w 27 #[Value.string m.t, Value.slice A m.p.length c, Value.int IntKind.i64 m.q, Value.bool m.r]
  have hb' := hb.alloc (.cells #[Value.string m.t, Value.slice A m.p.length c, Value.int IntKind.i64 m.q, Value.bool m.r] 27)
  have e0 := hb.cell_ (i := 0) rfl
  have e1 := hb.cell_ (i := 1) rfl
  have e2 := hb.cell_ (i := 2) rfl
  by_cases hfull : (ms.length : Int) < most
  · have R : pushN most ms lost = lost ∧ pushL most ms m = ms ++ [m] ∧ decide ((ms.length : Int) < most) = true := by
      unfold pushN pushL; rw [if_pos hfull, if_pos hfull]; simpa using hfull
    rw [R.1, R.2.1, R.2.2]
    obtain ⟨i0, hi0, hz0, hz1, hz2⟩ := info_parts info27
    have hlen : ms.length ≤ 65536 := by omega
    have HH := hid (And.intro (And.intro hb (And.intro hb1 hb2)) (And.intro (And.intro ho hs) hm))
    clear hb ho hs hm hb1 hb2 R
    go_enter Try.func9, Try.ntmps9
    go_wp2
    go_quiet (fail)
    go_wp2
    obtain ⟨W, hW⟩ : ∃ W, W = ((w.alloc (Obj.cells #[Value.string m.t, Value.slice A m.p.length c, Value.int IntKind.i64 m.q, Value.bool m.r] 27)).drewN nq) := ⟨_, rfl⟩
    rw [← hW]
    have hWs : Same [5] B w W.drew := by rw [hW]; exact (((Same.refl _ _ _).alloc _).drewN _).drew
    have hWk : Kept [] w W.drew := by rw [hW]; exact (((Kept.refl _ _).alloc _).drewN _).drew
    have xW : Blk W.drew w.heap.size 27 #[Value.string m.t, Value.slice A m.p.length c, Value.int IntKind.i64 m.q, Value.bool m.r] := by rw [hW]; exact hbox
    have hsz : W.heap.size = w.heap.size + 1 := by rw [hW]; simp
    clear hW hbox hb'
    have bW : Blk W.drew b 46 #[Value.slice A0 ms.length c0, .int .i64 most, .int .i64 lost] := HH.out.1.1.kept hWk (by simp)
    have hmW := HH.out.2.2.same hWs
    have oW := HH.out.2.1.1.kept hWk (by simp)
    have g0 : W.cell? ⟨b, 0, none⟩ = _ := bW.cell_ (i := 0) rfl
    have g1 : W.frozen? ⟨b, 0, none⟩ = false := bW.frozen 0
    have x0 : W.cell? ⟨w.heap.size, 0, none⟩ = _ := xW.cell_ (i := 0) rfl
    have x1 : W.cell? ⟨w.heap.size, 1, none⟩ = _ := xW.cell_ (i := 1) rfl
    have x2 : W.cell? ⟨w.heap.size, 2, none⟩ = _ := xW.cell_ (i := 2) rfl
    have x3 : W.cell? ⟨w.heap.size, 3, none⟩ = _ := xW.cell_ (i := 3) rfl
    have nb : ∀ k, (Value.slice A0 ms.length c0).ownBlock = some k → k ≠ b := fun k hk => by
      obtain ⟨_, cs, hcs⟩ := HH.out.2.1.1.blk k hk
      exact row_ne_struct (t := 46) hcs HH.out.1.1 (by decide)
    have nx : ∀ k, (Value.slice A0 ms.length c0).ownBlock = some k → k < w.heap.size := fun k hk => (HH.out.2.1.1.blk k hk).1
    have HW := hid (And.intro hWs hWk)
    have hb63 : ms.length + 1 ≤ maxLen := by unfold maxLen; omega
    have hbytes : (ms.length + 1) * 56 ≤ 140737488355328 := by omega
    clear hWs hWk e0 e1 e2
    go_region_law (first
      | (go_simp; go_at_call 18; refine (copied_any B _ _ m _ hmW hn (by simp; omega)).mono ?_; rintro e w1 ⟨A1, c1, rfl, hm1, hbel1⟩; have b1 := bW.below hbel1 (by simp; omega); have o1 := (oW.kept (Kept.of_below hbel1 []) (by simp)).alloc (.cells #[Value.string m.t, Value.slice A1 m.p.length c1, Value.int IntKind.i64 m.q, Value.bool m.r] 27); have r1 := Rds.boxed w1 #[Value.string m.t, Value.slice A1 m.p.length c1, Value.int IntKind.i64 m.q, Value.bool m.r] 27 4 rfl; have y0 := b1.cell_ (i := 0) rfl; have y0a := (b1.alloc (.cells #[Value.string m.t, Value.slice A1 m.p.length c1, Value.int IntKind.i64 m.q, Value.bool m.r] 27)).cell_ (i := 0) rfl)
      | (refine step_append_own _ rfl (.tmp 26) (.tmp 29) _ rfl 27 i0 _ 4 56 Try.underlying22 hi0 hz0 hz1 hz2 rfl (by omega) (.slice A0 ms.length c0) ms.length xs rfl o1 _ _ _ _ _ rfl r1 (by simp [Value.oneCell']) hb63 hbytes ?_; intro v2 w2 o2 k2 at2; obtain ⟨A2, c2, hv2, hc3, hc4⟩ := o2.form; subst hv2; have b2 := (b1.alloc (.cells #[Value.string m.t, Value.slice A1 m.p.length c1, Value.int IntKind.i64 m.q, Value.bool m.r] 27)).kept k2 (fun hx => nb _ (by simpa using hx) rfl); have z0 := b2.cell_ (i := 0) rfl; have z1 := b2.frozen 0))
    all_goals go_wp2
    all_goals go_ret
    all_goals
      have k1 : Kept [] w (w1.alloc (.cells #[Value.string m.t, Value.slice A1 m.p.length c1, Value.int IntKind.i64 m.q, Value.bool m.r] 27)) := (HW.out.2.trans (Kept.of_below hbel1 []) (by simp)).alloc _
      have P := push_parts (i := 0) (m := m) HH.out.1.2.1 HH.out.1.2.2 HH.out.1.1 (by decide) HH.out.2.1.1 HH.out.2.1.2 k1 o2 k2 at2 ⟨A1, c1, rfl, hm1.same (.of_below ((Below.refl _ _).alloc (Nat.le_refl _) _))⟩ rfl hB
      exact ⟨rfl, _, ⟨P.1, HH.out.1.2.1, P.2.1, _, P.2.2.1, P.2.2.2.1⟩, P.2.2.2.2.1, P.2.2.2.2.2.1, P.2.2.2.2.2.2⟩
  · have R : pushN most ms lost = lost + 1 ∧ pushL most ms m = ms ∧ decide ((ms.length : Int) < most) = false := by
      unfold pushN pushL; rw [if_neg hfull, if_neg hfull]; simpa using hfull
    rw [R.1, R.2.1, R.2.2]
    have fr2 := hb'.frozen 2
    have g2 := hb'.cell_ (i := 2) rfl
    have HH := hid (And.intro (And.intro hb (And.intro hb1 hb2)) (And.intro (And.intro ho hs) hm))
    have fin : ∀ (o : Obj) (k : Nat), IsQ B (((w.alloc o).drewN k).setCell ⟨b, 2, none⟩ (.int .i64 (lost + 1))) b (.slice A0 ms.length c0) most (lost + 1) ms ∧ Kept [b] w (((w.alloc o).drewN k).setCell ⟨b, 2, none⟩ (.int .i64 (lost + 1))) ∧
        Same [5] B w (((w.alloc o).drewN k).setCell ⟨b, 2, none⟩ (.int .i64 (lost + 1))) := fun o k => by
      have K : Kept [b] w (((w.alloc o).drewN k).setCell ⟨b, 2, none⟩ (.int .i64 (lost + 1))) := (((Kept.refl _ _).alloc _).drewN _).setCell (by simp) _
      have S : Same [5] B w (((w.alloc o).drewN k).setCell ⟨b, 2, none⟩ (.int .i64 (lost + 1))) := .of_kept K (fun x hx _ => by
        simp at hx; subst hx
        exact ⟨hb1, hb.not_typ (by simp)⟩)
      refine ⟨⟨((hb.alloc o).drewN k).set_ 2 _, hb1, hb2, xs, ho.kept K (fun g hg hx => ?_), hs.imp fun cs m h => h.same S⟩, K, S⟩
      obtain ⟨_, cs, hcs⟩ := ho.blk g hg
      exact row_ne_struct (t := 46) hcs hb (by decide) (by simpa using hx)
    have FF := hid fin
    clear hb ho hs hm hb1 hb2 R hbox hb' fin e2
    go_enter Try.func9, Try.ntmps9
    go_wp2
    go_quiet (fail)
    go_wp2
    go_ret
    exact ⟨rfl, _, (FF.out _ _).1, (FF.out _ _).2.1.mono (fun x hx _ => by simp at hx; subst hx; simp), (FF.out _ _).2.2, fun k hk => .inl hk⟩
end Go.Proofs.Ytdpjkpaolmhliaa
