/- Same of two zero packets; 'known'. -/
import Derived.Test.YtagcfmmbbcnkbaaG
set_option linter.all false
namespace Go.Proofs.Ytagcfmmbbcnkbaa
open Go.RowKit Go.Hub

theorem run_nil (w : World) : (convert 22 9 (.slice none 0 0)).run Try.prog w = .ok (.string ⟨#[]⟩) w :=
  (Bs.nil [5] 0 w none).conv Try.underlying22 Try.underlying5 Try.underlying9
def zeroW : Array Value := #[.string ⟨#[]⟩, .slice none 0 0, .int .i64 0, .bool false]
set_option maxHeartbeats 1000000 in
theorem will_zero (w : World) : Calls Try.prog 24 #[.agg #[.string ⟨#[]⟩, .slice none 0 0, .int .i64 0, .bool false], .agg #[.string ⟨#[]⟩, .slice none 0 0, .int .i64 0, .bool false]] w fun e w' => e = .returned (.bool true) ∧ Below w.heap.size w w' := by
  have hn := run_nil
  have hb := fun (o o' : Obj) => ((Below.refl w.heap.size w).alloc (Nat.le_refl _) o).alloc (by simp) o'
  have HB := hid hb
  clear hb
  go_enter Try.func24, Try.ntmps24
  go_wp2
  go_ret
  exact ⟨rfl, HB.out _ _⟩
set_option maxRecDepth 100000 in
set_option maxHeartbeats 4000000 in
theorem same_zero (w : World) : Calls Try.prog 14 #[.agg zeroPk, .agg zeroPk] w fun e w' => e = .returned (.bool true) ∧ Below w.heap.size w w' := by
  have hn := run_nil
  have z0 := (Blk.new w 28 zeroPk).alloc (.cells zeroPk 28)
  have z1 := Blk.new (w.alloc (.cells zeroPk 28)) 28 zeroPk
  rw [World.size_alloc] at z1
  have b0 : Below w.heap.size w ((w.alloc (.cells zeroPk 28)).alloc (.cells zeroPk 28)) := ((Below.refl _ _).alloc (Nat.le_refl _) _).alloc (by simp) _
  have HB := hid (And.intro z0 (And.intro z1 b0))
  clear z0 z1 b0
  go_enter Try.func14, Try.ntmps14
  go_wp2_with fail
  refine (will_zero _).mono ?_
  rintro e w1 ⟨rfl, b1⟩
  have y0 := HB.out.1.below b1 HB.out.1.lt
  have y1 := HB.out.2.1.below b1 HB.out.2.1.lt
  have HE := hid (HB.out.2.2.trans (b1.mono HB.out.2.2.size))
  have p0 := y0.cell_ (i := 0) rfl
  have q0 := y1.cell_ (i := 0) rfl
  have p1 := y0.cell_ (i := 1) rfl
  have q1 := y1.cell_ (i := 1) rfl
  have p2 := y0.cell_ (i := 2) rfl
  have q2 := y1.cell_ (i := 2) rfl
  have p3 := y0.cell_ (i := 3) rfl
  have q3 := y1.cell_ (i := 3) rfl
  have p4 := y0.cell_ (i := 4) rfl
  have q4 := y1.cell_ (i := 4) rfl
  have p5 := y0.cell_ (i := 5) rfl
  have q5 := y1.cell_ (i := 5) rfl
  have p6 := y0.cell_ (i := 6) rfl
  have q6 := y1.cell_ (i := 6) rfl
  have p7 := y0.cell_ (i := 7) rfl
  have q7 := y1.cell_ (i := 7) rfl
  have p8 := y0.cell_ (i := 8) rfl
  have q8 := y1.cell_ (i := 8) rfl
  have p9 := y0.cell_ (i := 9) rfl
  have q9 := y1.cell_ (i := 9) rfl
  have p10 := y0.cell_ (i := 10) rfl
  have q10 := y1.cell_ (i := 10) rfl
  have p11 := y0.cell_ (i := 11) rfl
  have q11 := y1.cell_ (i := 11) rfl
  have p12 := y0.cell_ (i := 12) rfl
  have q12 := y1.cell_ (i := 12) rfl
  have p13 := y0.cell_ (i := 13) rfl
  have q13 := y1.cell_ (i := 13) rfl
  have p14 := y0.cell_ (i := 14) rfl
  have q14 := y1.cell_ (i := 14) rfl
  have p15 := y0.cell_ (i := 15) rfl
  have q15 := y1.cell_ (i := 15) rfl
  have p16 := y0.cell_ (i := 16) rfl
  have q16 := y1.cell_ (i := 16) rfl
  have p17 := y0.cell_ (i := 17) rfl
  have q17 := y1.cell_ (i := 17) rfl
  have p18 := y0.cell_ (i := 18) rfl
  have q18 := y1.cell_ (i := 18) rfl
  have p19 := y0.cell_ (i := 19) rfl
  have q19 := y1.cell_ (i := 19) rfl
  have p20 := y0.cell_ (i := 20) rfl
  have q20 := y1.cell_ (i := 20) rfl
  have p21 := y0.cell_ (i := 21) rfl
  have q21 := y1.cell_ (i := 21) rfl
  have p22 := y0.cell_ (i := 22) rfl
  have q22 := y1.cell_ (i := 22) rfl
  have p23 := y0.cell_ (i := 23) rfl
  have q23 := y1.cell_ (i := 23) rfl
  clear y0 y1 b1 HB
  go_wp2_with fail
  go_loopg [5] 1 (fun g v wr => v = .int .i64 0 ∧ w1 = wr)
  case atStart => exact ⟨rfl, rfl⟩
  case round =>
    obtain ⟨rfl, rfl⟩ := hrel
    go_wp2_with fail
    go_loopg [6] 1 (fun g v wr => v = .int .i64 0 ∧ w1 = wr)
    case atStart => exact ⟨rfl, rfl⟩
    case round =>
      obtain ⟨rfl, rfl⟩ := hrel
      go_wp2
      go_ret
      exact ⟨rfl, HE.out⟩
end Go.Proofs.Ytagcfmmbbcnkbaa
