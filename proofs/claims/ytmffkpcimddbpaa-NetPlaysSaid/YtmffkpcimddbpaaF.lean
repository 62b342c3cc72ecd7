/- The contracts of Arrive. -/
import Derived.Test.YtmffkpcimddbpaaE
set_option linter.all false
namespace Go.Proofs.Ytmffkpcimddbpaa
open Go.RowKit Go.Hub

set_option maxHeartbeats 1000000 in
theorem arrive_out (B b : Nat) (v : Value) (mask i : Int) (ms : List F) (w : World) (h : IsN B w b v mask ms) (hi : i < 0 ∨ (ms.length : Int) ≤ i) :
    Calls Try.prog 11 #[.pointer (some ⟨b, 0, none⟩), .int .i64 i] w fun e w' => e = .returned (.tuple #[zeroAgg, .bool false, .bool false]) ∧ Below w.heap.size w w' := by
  have S0 : Below w.heap.size w (w.alloc (.cells #[.int .i64 0, .int .i64 0, .slice none 0 0] 33)) := (Below.refl _ _).alloc (Nat.le_refl _) _
  have HN := hid h
  clear h
  go_enter Try.func11, Try.ntmps11
  go_wp2_with fail
  refine (twice_out B b v mask i ms _ (HN.out.old S0) hi).mono ?_
  rintro e w1 ⟨rfl, hbel⟩
  have d0 := (Blk.new w 33 #[.int .i64 0, .int .i64 0, .slice none 0 0]).below hbel (by simp)
  have hb1 := S0.trans (hbel.mono (by simp))
  have HB := hid (And.intro d0 (And.intro hb1 ((HN.out.old S0).old hbel)))
  clear d0 hb1 hbel S0
  unfold zeroAgg
  go_wp2_with fail
  obtain ⟨W, hW⟩ : ∃ W, W = w1.alloc (.cells #[.int .i64 0, .int .i64 0, .slice none 0 0] 33) := ⟨_, rfl⟩
  rw [← hW]
  have hbW : Below w1.heap.size w1 W := by rw [hW]; exact (Below.refl _ _).alloc (Nat.le_refl _) _
  have xW : Blk W w1.heap.size 33 #[.int .i64 0, .int .i64 0, .slice none 0 0] := by rw [hW]; exact Blk.new _ _ _
  clear hW
  refine (drop_out B b v mask i ms _ (HB.out.2.2.old hbW) hi).mono ?_
  rintro e w2 ⟨rfl, rfl⟩
  have d0 := HB.out.1.below hbW HB.out.1.lt
  have hlt := HB.out.1.lt
  have p0 := xW.cell_ (i := 0) rfl
  have p1 := xW.cell_ (i := 1) rfl
  have p2 := xW.cell_ (i := 2) rfl
  have r0 := d0.cell_ (i := 0) rfl
  have r1 := d0.cell_ (i := 1) rfl
  have r2 := d0.cell_ (i := 2) rfl
  have z0 := d0.frozen 0
  have z1 := d0.frozen 1
  have z2 := d0.frozen 2
  have fin := HB.out.2.1.trans (hbW.mono HB.out.2.1.size)
  have K : Kept [w.heap.size] W (((W.setCell ⟨w.heap.size, 0, none⟩ (.int .i64 0)).setCell ⟨w.heap.size, 1, none⟩ (.int .i64 0)).setCell ⟨w.heap.size, 2, none⟩ (.slice none 0 0)) := (Kept.refl _ _).set3 (by simp)
  have HF := hid (And.intro (fin.trans (K.below (by simp) fin.size)) (Blk.set3 (v0 := .int .i64 0) (v1 := .int .i64 0) (v2 := .slice none 0 0) d0))
  clear d0 fin K hbW xW
  go_wp2
  exact ret_cell_tmp2 (g := w.heap.size) rfl _ rfl rfl rfl HF.out.2 Try.underlying33 rfl sz33 rfl ⟨rfl, HF.out.1⟩

set_option maxHeartbeats 1000000 in
theorem arrive_in (B b : Nat) (v : Value) (mask : Int) (ms : List F) (i : Nat) (m : F) (w : World) (h : IsN B w b v mask ms) (hm : ms[i]? = some m) (hB : B ≤ w.heap.size) (hml : m.b.length ≤ 1000000) (hlen : ms.length ≤ 65536) :
    Calls Try.prog 11 #[.pointer (some ⟨b, 0, none⟩), .int .i64 i] w fun e w' => (∃ A c, e = .returned (.tuple #[.agg #[.int .i64 m.f, .int .i64 m.t, .slice A m.b.length c], .bool true, .bool (sideL mask m.f == sideL mask m.t)]) ∧ Bs [5] B w' A m.b.length m.b) ∧
      ∃ v', IsN B w' b v' mask (delL ms i) ∧ Kept (b :: v.ownBlock.toList) w w' ∧ Same [5] B w w' ∧ (∀ k, v'.ownBlock = some k → v.ownBlock = some k) := by
  have S0 : Below w.heap.size w (w.alloc (.cells #[.int .i64 0, .int .i64 0, .slice none 0 0] 33)) := (Below.refl _ _).alloc (Nat.le_refl _) _
  have hil : i < ms.length := (List.getElem?_eq_some_iff.1 hm).1
  have HN := hid h
  clear h
  go_enter Try.func11, Try.ntmps11
  go_wp2_with fail
  refine (twice_in B b v mask ms i m _ (HN.out.old S0) hm (by simp; omega) hml).mono ?_
  rintro e w1 ⟨A1, c1, rfl, hbs, hbel⟩
  have d0 := (Blk.new w 33 #[.int .i64 0, .int .i64 0, .slice none 0 0]).below hbel (by simp)
  have hb1 := S0.trans (hbel.mono (by simp))
  have HB := hid (And.intro d0 (And.intro hb1 (And.intro ((HN.out.old S0).old hbel) hbs)))
  clear d0 hb1 hbel S0 hbs
  go_wp2_with fail
  obtain ⟨W, hW⟩ : ∃ W, W = w1.alloc (.cells #[.int .i64 m.f, .int .i64 m.t, .slice A1 m.b.length c1] 33) := ⟨_, rfl⟩
  rw [← hW]
  have hbW : Below w1.heap.size w1 W := by rw [hW]; exact (Below.refl _ _).alloc (Nat.le_refl _) _
  have xW : Blk W w1.heap.size 33 #[Value.int IntKind.i64 m.f, Value.int IntKind.i64 m.t, Value.slice A1 m.b.length c1] := by rw [hW]; exact Blk.new _ _ _
  clear hW
  have bW := HB.out.2.1.trans (hbW.mono HB.out.2.1.size)
  refine (drop_in B b v mask ms i W (HB.out.2.2.1.old hbW) hil (Nat.le_trans hB bW.size) hlen).mono ?_
  rintro e w2 ⟨rfl, v', hN', hK, hS, hat⟩
  have hnot : ∀ k, w.heap.size ≤ k → k ∉ b :: v.ownBlock.toList := fun k hk hx => by
    obtain ⟨hb, hb1, hb2, xs, ho, hs⟩ := HN.out
    have hbl := hb.lt
    simp at hx
    rcases hx with rfl | hx
    · omega
    · have := (ho.blk k hx).1; omega
  have hlt := HB.out.1.lt
  have d2 := (HB.out.1.below hbW HB.out.1.lt).kept hK (hnot _ (Nat.le_refl _))
  have x2 := xW.kept hK (hnot _ (by omega))
  have p0 := x2.cell_ (i := 0) rfl
  have p1 := x2.cell_ (i := 1) rfl
  have p2 := x2.cell_ (i := 2) rfl
  have r0 := d2.cell_ (i := 0) rfl
  have r1 := d2.cell_ (i := 1) rfl
  have r2 := d2.cell_ (i := 2) rfl
  have z0 := d2.frozen 0
  have z1 := d2.frozen 1
  have z2 := d2.frozen 2
  have K3 : Kept [w.heap.size] w2 (((w2.setCell ⟨w.heap.size, 0, none⟩ (.int .i64 m.f)).setCell ⟨w.heap.size, 1, none⟩ (.int .i64 m.t)).setCell ⟨w.heap.size, 2, none⟩ (.slice A1 m.b.length c1)) := (Kept.refl _ _).set3 (by simp)
  have S3 : Same [5] B w2 (((w2.setCell ⟨w.heap.size, 0, none⟩ (.int .i64 m.f)).setCell ⟨w.heap.size, 1, none⟩ (.int .i64 m.t)).setCell ⟨w.heap.size, 2, none⟩ (.slice A1 m.b.length c1)) := .of_kept K3 (fun x hx _ => by
      simp at hx; subst hx
      exact ⟨hB, d2.not_typ (by simp)⟩)
  have N3 : IsN B (((w2.setCell ⟨w.heap.size, 0, none⟩ (.int .i64 m.f)).setCell ⟨w.heap.size, 1, none⟩ (.int .i64 m.t)).setCell ⟨w.heap.size, 2, none⟩ (.slice A1 m.b.length c1)) b v' mask (delL ms i) := by
    obtain ⟨hb, hb1, hb2, xs, ho, hs⟩ := hN'
    refine ⟨hb.kept K3 (fun hx => ?_), hb1, hb2, xs, ho.kept K3 (fun k hk hx => ?_), hs.imp fun cs m h => h.same S3⟩
    · simp at hx
      exact hnot b (by omega) (by simp)
    · simp at hx
      exact hnot k (by omega) (by simp [hat k hk])
  have F : Bs [5] B (((w2.setCell ⟨w.heap.size, 0, none⟩ (.int .i64 m.f)).setCell ⟨w.heap.size, 1, none⟩ (.int .i64 m.t)).setCell ⟨w.heap.size, 2, none⟩ (.slice A1 m.b.length c1)) A1 m.b.length m.b ∧
      Kept (b :: v.ownBlock.toList) w (((w2.setCell ⟨w.heap.size, 0, none⟩ (.int .i64 m.f)).setCell ⟨w.heap.size, 1, none⟩ (.int .i64 m.t)).setCell ⟨w.heap.size, 2, none⟩ (.slice A1 m.b.length c1)) ∧
      Same [5] B w (((w2.setCell ⟨w.heap.size, 0, none⟩ (.int .i64 m.f)).setCell ⟨w.heap.size, 1, none⟩ (.int .i64 m.t)).setCell ⟨w.heap.size, 2, none⟩ (.slice A1 m.b.length c1)) := by
    refine ⟨((HB.out.2.2.2.same (.of_below hbW)).same hS).same S3, ?_, ((Same.of_below bW).trans hS).trans S3⟩
    exact ((Kept.of_below bW (b :: v.ownBlock.toList)).trans hK (fun x hx _ => hx)).trans K3 (fun x hx hlt => by simp at hx; omega)
  have HF := hid (And.intro F (And.intro N3 (Blk.set3 (v0 := .int .i64 m.f) (v1 := .int .i64 m.t) (v2 := .slice A1 m.b.length c1) d2)))
  have hat2 := hid hat
  clear F N3 S3 K3 d2 x2 hN' hK hS hat hbW xW bW hnot
  go_wp2
  exact ret_cell_tmp2 (g := w.heap.size) rfl _ rfl rfl rfl HF.out.2.2 Try.underlying33 rfl sz33 rfl ⟨⟨A1, c1, rfl, HF.out.1.1⟩, v', HF.out.2.1, HF.out.1.2.1, HF.out.1.2.2, hat2.out⟩
end Go.Proofs.Ytmffkpcimddbpaa
