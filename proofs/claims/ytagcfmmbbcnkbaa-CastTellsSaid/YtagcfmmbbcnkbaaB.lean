/- The contract of wire.Copy. -/
import Derived.Test.YtagcfmmbbcnkbaaA
import Derived.Deep.Cut
import Derived.Deep.CutRange
import Derived.Deep.CutBlock
set_option linter.all false
namespace Go.Proofs.Ytagcfmmbbcnkbaa
open Go.RowKit Go.Hub

def EP : List TypeId := [5, 58, 3]
theorem sz28 : (Try.prog.info? 28).map (·.size) = some 24 := by kernel_rfl
theorem ep5 : 5 ∈ EP := by decide
theorem ep58 : 58 ∈ EP := by decide
theorem ep3 : 3 ∈ EP := by decide

theorem three_below {w W w1 w2 w3 : World} (h : Below w.heap.size w W) (b1 : Below W.drew.heap.size W.drew w1) (b2 : Below w1.heap.size w1 w2) (b3 : Below w2.heap.size w2 w3) : Below w.heap.size w w3 := by
  have c1 : Below W.heap.size W w1 := ⟨b1.os, b1.tape, b1.output, b1.size, b1.block⟩
  have r1 := h.trans (c1.mono h.size)
  have r2 := r1.trans (b2.mono r1.size)
  exact r2.trans (b3.mono r2.size)

set_option maxRecDepth 100000 in
set_option maxHeartbeats 40000000 in
theorem copy_any (B : Nat) (p : Pk) (s : Ad) (w : World) (h : p.Ok EP B w s) (hp : p.Small) (hB : B ≤ w.heap.size) :
    Calls Try.prog 20 #[.agg (p.cells s)] w fun e w' => ∃ s', e = .returned (.agg (p.cells s')) ∧ p.Ok EP B w' s' ∧ Below w.heap.size w w' := by
  obtain ⟨hp1, hp2, hp3, hp4, hp5⟩ := hp
  have t0 := (Blk.new w 28 (p.cells s)).alloc (.cells zeroPk 28)
  have z0 := Blk.new (w.alloc (.cells (p.cells s) 28)) 28 zeroPk
  rw [World.size_alloc] at z0
  have b0 : Below w.heap.size w ((w.alloc (.cells (p.cells s) 28)).alloc (.cells zeroPk 28)) := ((Below.refl _ _).alloc (Nat.le_refl _) _).alloc (by simp) _
  obtain ⟨W, hW⟩ : ∃ W, W = (w.alloc (.cells (p.cells s) 28)).alloc (.cells zeroPk 28) := ⟨_, rfl⟩
  rw [← hW] at t0 z0 b0
  go_enter Try.func20, Try.ntmps20
  go_upto_region 1 with fail
  rw [← hW]
  clear hW
  have c6 : W.cell? ⟨w.heap.size, 6, none⟩ = some (.slice s.pa p.pay.length s.pc) := t0.cell_ (i := 6) rfl
  have c13 : W.cell? ⟨w.heap.size, 13, none⟩ = some (.slice s.wa p.wp.length s.wc) := t0.cell_ (i := 13) rfl
  have c19 : W.cell? ⟨w.heap.size, 19, none⟩ = some (.slice s.sa p.pass.length s.sc) := t0.cell_ (i := 19) rfl
  have HW := hid (And.intro (And.intro t0 z0) (And.intro b0 (h.same (.of_below b0))))
  clear t0 z0 b0 h
  have lt0 := HW.out.1.1.lt
  go_cut [] from 3 to 16 (fun wx => ∃ s1, Hid (Blk wx w.heap.size 28 (p.cells s1)) ∧ Hid (Blk wx (w.heap.size + 1) 28 zeroPk) ∧ Hid (p.Ok EP B wx s1) ∧ Hid (Below w.heap.size w wx))
  case first =>
    go_region_law (first
        | (go_simp; go_at_call_of 25 (p.pay); refine (clone_bytes EP ep5 B s.pa s.pc p.pay _ HW.out.2.2.pay.drew hp1).mono ?_; rintro e w1 ⟨A1, d1, rfl, h1, b1⟩; have t1 := HW.out.1.1.drew.below b1 lt0; have e6 : w1.cell? ⟨w.heap.size, 6, none⟩ = some (.slice s.pa p.pay.length s.pc) := t1.cell_ (i := 6) rfl; have e13 : w1.cell? ⟨w.heap.size, 13, none⟩ = some (.slice s.wa p.wp.length s.wc) := t1.cell_ (i := 13) rfl; have e19 : w1.cell? ⟨w.heap.size, 19, none⟩ = some (.slice s.sa p.pass.length s.sc) := t1.cell_ (i := 19) rfl)
        | (go_simp; go_at_call_of 25 (p.pass); refine (clone_bytes EP ep5 B s.sa s.sc p.pass w1 ((HW.out.2.2.pass.drew).same (.of_below b1)) hp3).mono ?_; rintro e w2 ⟨A2, d2, rfl, h2, b2⟩; have t2 := t1.below b2 t1.lt; have f6 : w2.cell? ⟨w.heap.size, 6, none⟩ = some (.slice s.pa p.pay.length s.pc) := t2.cell_ (i := 6) rfl; have f13 : w2.cell? ⟨w.heap.size, 13, none⟩ = some (.slice s.wa p.wp.length s.wc) := t2.cell_ (i := 13) rfl; have f19 : w2.cell? ⟨w.heap.size, 19, none⟩ = some (.slice s.sa p.pass.length s.sc) := t2.cell_ (i := 19) rfl)
        | (go_simp; go_at_call_of 25 (p.wp); refine (clone_bytes EP ep5 B s.wa s.wc p.wp w2 (((HW.out.2.2.wp.drew).same (.of_below b1)).same (.of_below b2)) hp2).mono ?_; rintro e w3 ⟨A3, d3, rfl, h3, b3⟩; have t3 := t2.below b3 t2.lt; have g6 : w3.cell? ⟨w.heap.size, 6, none⟩ = some (.slice s.pa p.pay.length s.pc) := t3.cell_ (i := 6) rfl; have g13 : w3.cell? ⟨w.heap.size, 13, none⟩ = some (.slice s.wa p.wp.length s.wc) := t3.cell_ (i := 13) rfl; have g19 : w3.cell? ⟨w.heap.size, 19, none⟩ = some (.slice s.sa p.pass.length s.sc) := t3.cell_ (i := 19) rfl; have k6 := t3.frozen 6; have k13 := t3.frozen 13; have k19 := t3.frozen 19))
    all_goals
      have K3 := (((Kept.refl [w.heap.size] w3).setCell (p := ⟨w.heap.size, 6, none⟩) (by simp) (.slice A1 p.pay.length d1)).setCell (p := ⟨w.heap.size, 19, none⟩) (by simp) (.slice A2 p.pass.length d2)).setCell (p := ⟨w.heap.size, 13, none⟩) (by simp) (.slice A3 p.wp.length d3)
      have T3 := ((t3.set_ 6 (.slice A1 p.pay.length d1)).set_ 19 (.slice A2 p.pass.length d2)).set_ 13 (.slice A3 p.wp.length d3)
      rw [Pk.set6, Pk.set19 p { s with pa := A1, pc := d1 }, Pk.set13 p { s with pa := A1, pc := d1, sa := A2, sc := d2 }] at T3
      have S3 := Same.of_kept (E := EP) (B := B) K3 (fun x hx _ => by
        simp at hx; subst hx
        exact ⟨hB, t3.not_typ (by decide)⟩)
      have Z3 := ((((HW.out.1.2.drew.below b1 HW.out.1.2.lt).below b2 (by have := HW.out.1.2.lt; have := b1.size; simp at this; omega)).below b3 (by have := HW.out.1.2.lt; have := b1.size; have := b2.size; simp at *; omega)).kept K3 (by simp))
      have o0 := HW.out.2.2
      have S12 : Same EP B W.drew w3 := ((Same.of_below b1).trans (.of_below b2)).trans (.of_below b3)
      have O3 : p.Ok EP B _ { s with pa := A1, pc := d1, sa := A2, sc := d2, wa := A3, wc := d3 } := ⟨((h1.same (.of_below b2)).same (.of_below b3)).same S3, h3.same S3, (h2.same (.of_below b3)).same S3, (o0.subs.drew.same S12).same S3, (o0.codes.drew.same S12).same S3⟩
      have bb : Below w.heap.size w w3 := three_below HW.out.2.1 b1 b2 b3
      have B3 := bb.trans (K3.below (B := w.heap.size) (by simp) bb.size)
      have F := hid (And.intro T3 (And.intro Z3 (And.intro O3 B3)))
      clear K3 T3 S3 Z3 o0 S12 O3 bb B3
      go_wp2_with fail
      go_meet
      exact ⟨_, hid F.out.1, hid F.out.2.1, hid F.out.2.2.1, hid F.out.2.2.2⟩
  case rest =>
    obtain ⟨s1, T1, Z1, O1, B1⟩ := hcut
    go_upto_region 2 with fail
    have c22 : wc.cell? ⟨w.heap.size, 22, none⟩ = some (.slice s1.ua p.subs.length s1.uc) := T1.out.cell_ (i := 22) rfl
    have c23 : wc.cell? ⟨w.heap.size, 23, none⟩ = some (.slice s1.ca p.codes.length s1.cc) := T1.out.cell_ (i := 23) rfl
    have HV := hid (And.intro (And.intro T1.out Z1.out) (And.intro B1.out O1.out))
    have lt1 := T1.out.lt
    clear T1 Z1 O1 B1 HW
    go_cut [] from 17 to 24 (fun wx => ∃ s2, Hid (Blk wx w.heap.size 28 (p.cells s2)) ∧ Hid (Blk wx (w.heap.size + 1) 28 zeroPk) ∧ Hid (p.Ok EP B wx s2) ∧ Hid (Below w.heap.size w wx))
    case first =>
      go_region_law (first
        | (go_simp; go_at_call 26; refine (cloneS EP ep58 B s1.ua p.subs.length s1.uc _ _ HV.out.2.2.subs.drew (subCells_one _) hp4).mono ?_; rintro e w1 ⟨A1, d1, rfl, h1, b1⟩; have t1 := HV.out.1.1.drew.below b1 lt1; have e22 : w1.cell? ⟨w.heap.size, 22, none⟩ = some (.slice s1.ua p.subs.length s1.uc) := t1.cell_ (i := 22) rfl; have e23 : w1.cell? ⟨w.heap.size, 23, none⟩ = some (.slice s1.ca p.codes.length s1.cc) := t1.cell_ (i := 23) rfl)
        | (go_simp; go_at_call 27; refine (cloneI EP ep3 B s1.ca p.codes.length s1.cc _ w1 ((HV.out.2.2.codes.drew).same (.of_below b1)) (codeCells_one _) hp5).mono ?_; rintro e w2 ⟨A2, d2, rfl, h2, b2⟩; have t2 := t1.below b2 t1.lt; have f22 : w2.cell? ⟨w.heap.size, 22, none⟩ = some (.slice s1.ua p.subs.length s1.uc) := t2.cell_ (i := 22) rfl; have f23 : w2.cell? ⟨w.heap.size, 23, none⟩ = some (.slice s1.ca p.codes.length s1.cc) := t2.cell_ (i := 23) rfl; have k22 := t2.frozen 22; have k23 := t2.frozen 23))
      all_goals
        have K3 := ((Kept.refl [w.heap.size] w2).setCell (p := ⟨w.heap.size, 22, none⟩) (by simp) (.slice A1 p.subs.length d1)).setCell (p := ⟨w.heap.size, 23, none⟩) (by simp) (.slice A2 p.codes.length d2)
        have T3 := (t2.set_ 22 (.slice A1 p.subs.length d1)).set_ 23 (.slice A2 p.codes.length d2)
        rw [Pk.set22, Pk.set23 p { s1 with ua := A1, uc := d1 }] at T3
        have S3 := Same.of_kept (E := EP) (B := B) K3 (fun x hx _ => by
          simp at hx; subst hx
          exact ⟨hB, t2.not_typ (by decide)⟩)
        have Z3 := (((HV.out.1.2.drew.below b1 HV.out.1.2.lt).below b2 (by have := HV.out.1.2.lt; have := b1.size; simp at this; omega)).kept K3 (by simp))
        have o0 := HV.out.2.2
        have S12 : Same EP B wc.drew w2 := (Same.of_below b1).trans (.of_below b2)
        have O3 : p.Ok EP B _ { s1 with ua := A1, uc := d1, ca := A2, cc := d2 } := ⟨(o0.pay.drew.same S12).same S3, (o0.wp.drew.same S12).same S3, (o0.pass.drew.same S12).same S3, (h1.same (.of_below b2)).same S3, h2.same S3⟩
        have bb : Below w.heap.size w w2 := three_below HV.out.2.1 b1 b2 (Below.refl _ _)
        have B3 := bb.trans (K3.below (B := w.heap.size) (by simp) bb.size)
        have F := hid (And.intro T3 (And.intro Z3 (And.intro O3 B3)))
        clear K3 T3 S3 Z3 o0 S12 O3 bb B3
        go_wp2_with fail
        go_meet
        exact ⟨_, hid F.out.1, hid F.out.2.1, hid F.out.2.2.1, hid F.out.2.2.2⟩
    case rest =>
      obtain ⟨s2, T2, Z2, O2, B2⟩ := hcut
      have K4 := (Kept.refl [w.heap.size + 1] wc).setRow (g := w.heap.size + 1) (by simp) (p.cells s2)
      have S4 := Same.of_kept (E := EP) (B := B) K4 (fun x hx _ => by
        simp at hx; subst hx
        exact ⟨by omega, Z2.out.not_typ (by decide)⟩)
      have HF := hid (And.intro (Z2.out.setRow (p.cells s2)) (And.intro (O2.out.same S4) (B2.out.trans (K4.below (B := w.heap.size) (by simp) B2.out.size))))
      clear K4 S4 O2 B2 HV c22 c23
      go_wp2_with (first
        | (refine wpList_load_row rfl 28 (.tmp 1) rfl w.heap.size rfl 28 (p.cells s2) (0, 0) _ T2.out Try.underlying28 rfl sz28 ?_)
        | (refine wpList_store_row rfl 28 (.tmp 2) (.tmp 25) rfl (w.heap.size + 1) (p.cells s2) rfl rfl 28 zeroPk Z2.out sz28 rfl (p.cells_one s2) ?_))
      exact ret_cell (g := w.heap.size + 1) rfl _ rfl HF.out.1 Try.underlying28 rfl sz28 rfl ⟨s2, rfl, HF.out.2.1, HF.out.2.2⟩
end Go.Proofs.Ytagcfmmbbcnkbaa
