/- The contracts of Twice. -/
import Derived.Test.YtmffkpcimddbpaaD
set_option linter.all false
namespace Go.Proofs.Ytmffkpcimddbpaa
open Go.RowKit Go.Hub

def zeroAgg : Value := .agg #[.int .i64 0, .int .i64 0, .slice none 0 0]

set_option maxHeartbeats 1000000 in
theorem twice_out (B b : Nat) (v : Value) (mask i : Int) (ms : List F) (w : World) (h : IsN B w b v mask ms) (hi : i < 0 ∨ (ms.length : Int) ≤ i) :
    Calls Try.prog 10 #[.pointer (some ⟨b, 0, none⟩), .int .i64 i] w fun e w' => e = .returned (.tuple #[zeroAgg, .bool false, .bool false]) ∧ Below w.heap.size w w' := by
  obtain ⟨hb, hb1, hb2, xs, ho, hs⟩ := h
  obtain ⟨A0, c0, rfl, hc1, hc2⟩ := ho.form
  have bl := hb.lt
  have e0 := (hb.alloc (.cells #[.int .i64 0, .int .i64 0, .slice none 0 0] 33)).cell_ (i := 0) rfl
  clear hb ho hs hb1 hb2
  by_cases h0 : i < 0
  · clear hi
    go_enter Try.func10, Try.ntmps10
    go_wp2
    exact ret_cell_tmp2 (g := w.heap.size) rfl _ rfl rfl rfl (Blk.new w 33 #[.int .i64 0, .int .i64 0, .slice none 0 0]) Try.underlying33 rfl sz33 rfl ⟨rfl, (Below.refl _ _).alloc (Nat.le_refl _) _⟩
  · have h1 : (ms.length : Int) ≤ i := by omega
    have h2 : decide (i < 0) = false := by simp; omega
    clear hi
    go_enter Try.func10, Try.ntmps10
    go_wp2
    exact ret_cell_tmp2 (g := w.heap.size) rfl _ rfl rfl rfl (Blk.new w 33 #[.int .i64 0, .int .i64 0, .slice none 0 0]) Try.underlying33 rfl sz33 rfl ⟨rfl, (Below.refl _ _).alloc (Nat.le_refl _) _⟩

theorem flight_cells {B n i : Nat} {A0 : Option Addr} {m : F} {ms : List F} {w : World} {xs : List Value} {W : Nat} (hn : n = ms.length) (ho : Rds w W 3 A0 n xs) (hs : Seq 3 (relF [5] B w) xs ms) (hm : ms[i]? = some m) :
    ∃ g off A1 c1, A0 = some ⟨g, off, none⟩ ∧ g < W ∧ w.cell? ⟨g, off + i * 3, none⟩ = some (.int .i64 m.f) ∧ w.cell? ⟨g, off + i * 3 + 1, none⟩ = some (.int .i64 m.t) ∧ w.cell? ⟨g, off + i * 3 + 2, none⟩ = some (.slice A1 m.b.length c1) ∧
      Bs [5] B w A1 m.b.length m.b := by
  have hl : i < ms.length := (List.getElem?_eq_some_iff.1 hm).1
  obtain ⟨cs, ⟨A1, c1, rfl, hb⟩, hc⟩ := hs.at_ hm
  obtain ⟨g, off, rfl, hg, hcell⟩ := ho.2 (by omega)
  refine ⟨g, off, A1, c1, rfl, hg, ?_, ?_, ?_, hb⟩
  · have := hcell (i * 3 + 0) _ (hc 0 _ rfl); simpa using this
  · have := hcell (i * 3 + 1) _ (hc 1 _ rfl); simpa [Nat.add_assoc] using this
  · have := hcell (i * 3 + 2) _ (hc 2 _ rfl); simpa [Nat.add_assoc] using this

theorem IsN.drew {B b : Nat} {v : Value} {mask : Int} {ms : List F} {w : World} (h : IsN B w b v mask ms) : IsN B w.drew b v mask ms := h
theorem IsN.old {B b : Nat} {v : Value} {mask : Int} {ms : List F} {w w' : World} (h : IsN B w b v mask ms) (hw : Below w.heap.size w w') : IsN B w' b v mask ms := by
  obtain ⟨hb, hb1, hb2, xs, ho, hs⟩ := h
  exact ⟨hb.below hw hb.lt, hb1, hb2, xs, ho.kept (Kept.of_below hw []) (by simp), hs.imp fun cs m h => h.old hw⟩

set_option maxHeartbeats 1000000 in
theorem twice_in (B b : Nat) (v : Value) (mask : Int) (ms : List F) (i : Nat) (m : F) (w : World) (h : IsN B w b v mask ms) (hm : ms[i]? = some m) (hB : B ≤ w.heap.size) (hml : m.b.length ≤ 1000000) :
    Calls Try.prog 10 #[.pointer (some ⟨b, 0, none⟩), .int .i64 i] w fun e w' => ∃ A c, e = .returned (.tuple #[.agg #[.int .i64 m.f, .int .i64 m.t, .slice A m.b.length c], .bool true, .bool (sideL mask m.f == sideL mask m.t)]) ∧ Bs [5] B w' A m.b.length m.b ∧ Below w.heap.size w w' := by
  have hN := hid h
  obtain ⟨hb, hb1, hb2, xs, ho, hs⟩ := h
  obtain ⟨A0, c0, rfl, hc1, hc2⟩ := ho.form
  have hil : i < ms.length := (List.getElem?_eq_some_iff.1 hm).1
  have S0 : Below w.heap.size w (w.alloc (.cells #[.int .i64 0, .int .i64 0, .slice none 0 0] 33)) := (Below.refl _ _).alloc (Nat.le_refl _) _
  obtain ⟨g, off, A1, c1, rfl, hg, x0, x1, x2, hbs⟩ := flight_cells rfl ((ho.rds).below S0) (hs.imp fun cs m h => h.old S0) hm
  have bl := hb.lt
  have e0 := (hb.alloc (.cells #[.int .i64 0, .int .i64 0, .slice none 0 0] 33)).cell_ (i := 0) rfl
  have h0 : decide ((i : Int) < 0) = false := by simp
  have h1 : ¬ (i : Int) < 0 := by omega
  have h2 : ¬ (ms.length : Int) ≤ (i : Int) := by omega
  have h3 : (i : Int) < (ms.length : Int) := by omega
  have HS := hid (And.intro S0 hbs)
  clear hb ho hs hb1 hb2 S0 hbs hm
  go_enter Try.func10, Try.ntmps10
  go_wp2_with fail
  refine (copied_any B _ _ m _ HS.out.2 hml (by simp; omega)).mono ?_
  rintro e w1 ⟨A2, c2, rfl, hbs2, hbel⟩
  have d0 := (Blk.new w 33 #[.int .i64 0, .int .i64 0, .slice none 0 0]).below hbel (by simp)
  have hN1 := (hN.out.old HS.out.1).old hbel
  clear e0 x0 x1 x2
  have HW := hid (And.intro hbs2 (HS.out.1.trans (hbel.mono (by simp))))
  clear hbs2 hbel
  go_wp2_with fail
  obtain ⟨W, hW⟩ : ∃ W, W = w1.alloc (Obj.cells #[Value.int IntKind.i64 m.f, Value.int IntKind.i64 m.t, Value.slice A2 m.b.length c2] 33) := ⟨_, rfl⟩
  rw [← hW]
  have hbW : Below w1.heap.size w1 W := by rw [hW]; exact (Below.refl _ _).alloc (Nat.le_refl _) _
  have xW : Blk W w1.heap.size 33 #[Value.int IntKind.i64 m.f, Value.int IntKind.i64 m.t, Value.slice A2 m.b.length c2] := by rw [hW]; exact Blk.new _ _ _
  clear hW
  have dW := d0.below hbW d0.lt
  have hNW : IsN B W.drew b (Value.slice (some { block := g, off := off }) ms.length c0) mask ms := (hN1.old hbW).drew
  have p0 : W.cell? ⟨w1.heap.size, 0, none⟩ = _ := xW.cell_ (i := 0) rfl
  have p1 : W.cell? ⟨w1.heap.size, 1, none⟩ = _ := xW.cell_ (i := 1) rfl
  have p2 : W.cell? ⟨w1.heap.size, 2, none⟩ = _ := xW.cell_ (i := 2) rfl
  have r0 : W.cell? ⟨w.heap.size, 0, none⟩ = _ := dW.cell_ (i := 0) rfl
  have r1 : W.cell? ⟨w.heap.size, 1, none⟩ = _ := dW.cell_ (i := 1) rfl
  have r2 : W.cell? ⟨w.heap.size, 2, none⟩ = _ := dW.cell_ (i := 2) rfl
  have z0 : W.frozen? ⟨w.heap.size, 0, none⟩ = _ := dW.frozen 0
  have z1 : W.frozen? ⟨w.heap.size, 1, none⟩ = _ := dW.frozen 1
  have z2 : W.frozen? ⟨w.heap.size, 2, none⟩ = _ := dW.frozen 2
  have hne : w.heap.size ≠ w1.heap.size := by have := d0.lt; omega
  have hne2 : w1.heap.size ≠ w.heap.size := by have := d0.lt; omega
  have HX := hid (And.intro hbW (And.intro dW hNW))
  clear hbW dW hNW xW d0 hN1
  go_region_held3 (fun w' => w'.cell? ⟨w1.heap.size, 0, none⟩ = some (.int .i64 m.f) ∧ w'.cell? ⟨w1.heap.size, 1, none⟩ = some (.int .i64 m.t) ∧ w'.cell? ⟨w1.heap.size, 2, none⟩ = some (.slice A2 m.b.length c2))
    (first | go_keep | exact ⟨p0, p1, p2⟩)
    (first | (go_at_call 17; refine (side_any B b _ mask _ _ _ HX.out.2.2).mono ?_; rintro e w2 ⟨rfl, rfl⟩))
  have K : Kept [w.heap.size] W (((W.setCell ⟨w.heap.size, 0, none⟩ (.int .i64 m.f)).setCell ⟨w.heap.size, 1, none⟩ (.int .i64 m.t)).setCell ⟨w.heap.size, 2, none⟩ (.slice A2 m.b.length c2)).drew := ((Kept.refl _ _).set3 (by simp)).drew
  have bW : Below w.heap.size w W := HW.out.2.trans (HX.out.1.mono HW.out.2.size)
  have fin : Below w.heap.size w (((W.setCell ⟨w.heap.size, 0, none⟩ (.int .i64 m.f)).setCell ⟨w.heap.size, 1, none⟩ (.int .i64 m.t)).setCell ⟨w.heap.size, 2, none⟩ (.slice A2 m.b.length c2)).drew :=
    bW.trans (K.below (by simp) bW.size)
  have hbs : Bs [5] B (((W.setCell ⟨w.heap.size, 0, none⟩ (.int .i64 m.f)).setCell ⟨w.heap.size, 1, none⟩ (.int .i64 m.t)).setCell ⟨w.heap.size, 2, none⟩ (.slice A2 m.b.length c2)).drew A2 m.b.length m.b :=
    (HW.out.1.same (.of_below HX.out.1)).same (.of_kept K (fun x hx _ => by
      simp at hx; subst hx
      exact ⟨hB, HX.out.2.1.not_typ (by simp)⟩))
  have hbl : Blk (((W.setCell ⟨w.heap.size, 0, none⟩ (.int .i64 m.f)).setCell ⟨w.heap.size, 1, none⟩ (.int .i64 m.t)).setCell ⟨w.heap.size, 2, none⟩ (.slice A2 m.b.length c2)).drew w.heap.size 33 #[.int .i64 m.f, .int .i64 m.t, .slice A2 m.b.length c2] := HX.out.2.1.set3
  have HF := hid (And.intro fin (And.intro hbs hbl))
  clear K bW fin hbs hbl p0 p1 p2 r0 r1 r2 z0 z1 z2
  go_wp2
  exact ret_cell_tmp2 (g := w.heap.size) rfl _ rfl rfl rfl HF.out.2.2 Try.underlying33 rfl sz33 rfl ⟨A2, c2, rfl, HF.out.2.1, HF.out.1⟩
end Go.Proofs.Ytmffkpcimddbpaa
