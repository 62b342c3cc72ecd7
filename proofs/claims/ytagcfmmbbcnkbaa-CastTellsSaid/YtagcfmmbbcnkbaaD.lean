/- The contracts of Any, Name, Id. -/
import Derived.Test.YtagcfmmbbcnkbaaB
import Derived.Test.YtagcfmmbbcnkbaaC
set_option linter.all false
namespace Go.Proofs.Ytagcfmmbbcnkbaa
open Go.RowKit Go.Hub

theorem _root_.Go.Hub.Pk.Ok.old {E : List TypeId} {B : Nat} {w w' : World} {p : Pk} {s : Ad} (h : p.Ok E B w s) (hs : Below w.heap.size w w') : p.Ok E B w' s := h.same (.of_below hs)
theorem built62 (p : Pk) (s : Ad) : Try.prog.built 62 [(0, .agg (p.cells s))] = some (p.cells s) := by kernel_rfl
theorem built37 (p : Pk) (s : Ad) : Try.prog.built 37 [(0, .agg (p.cells s))] = some (p.cells s) := by kernel_rfl
theorem built63 (p : Pk) (s : Ad) : Try.prog.built 63 [(0, .agg (p.cells s))] = some (p.cells s) := by kernel_rfl
theorem built55 (p : Pk) (s : Ad) : Try.prog.built 55 [(0, .agg (p.cells s))] = some (p.cells s) := by kernel_rfl
theorem built56 (p : Pk) (s : Ad) : Try.prog.built 56 [(0, .agg (p.cells s))] = some (p.cells s) := by kernel_rfl

/-- 'T{P: p}' at the operation: T is a struct of this one field. -/
theorem wpList_build_one {P : Program} {ops : Array Oper} {rest : List Oper} {o : Oper} {a : Act} {w : World} {Q : Exit → Act → World → Prop} (hg : o.guard = none) (t : TypeId) (x : Operand) (ho : o.op = .build t #[(0, x)]) (cs : Array Value) (hx : a.eval x = .agg cs)
    (hb : P.built t [(0, .agg cs)] = some cs) (h : wpList P ops Q rest (a.put o.dst (.agg cs)) w) : wpList P ops Q (o :: rest) a w := by
  have e : (P.built t (((#[(0, x)] : Array (Nat × Operand)).map fun (i, x) => (i, a.eval x))).toList) = some cs := by simpa [hx] using hb
  refine wpList_build hg t #[(0, x)] ho (by rw [e]; rfl) ?_
  rw [e]
  exact h

set_option maxRecDepth 100000 in
set_option maxHeartbeats 2000000 in
theorem any_any (B : Nat) (p : Pk) (s : Ad) (w : World) (h : p.Ok EP B w s) (hp : p.Small) (hB : B ≤ w.heap.size) :
    Calls Try.prog 9 #[.agg (p.cells s)] w fun e w' => ∃ s', e = .returned (boxed (kplace p.kind) (p.cells s')) ∧ p.Ok EP B w' s' ∧ Below w.heap.size w w' := by
  have t0 := Blk.new w 28 (p.cells s)
  have b0 : Below w.heap.size w (w.alloc (.cells (p.cells s) 28)) := (Below.refl _ _).alloc (Nat.le_refl _) _
  have HO := hid (h.old b0)
  clear h
  obtain ⟨W, hW⟩ : ∃ W, W = w.alloc (.cells (p.cells s) 28) := ⟨_, rfl⟩
  rw [← hW] at t0 b0 HO
  go_enter Try.func9, Try.ntmps9
  go_upto_region 1 with fail
  rw [← hW]
  clear hW
  go_wp2_with (first
    | (refine wpList_load_row rfl 28 (.tmp 1) rfl w.heap.size rfl 28 (p.cells s) (0, 0) _ t0 Try.underlying28 rfl sz28 ?_))
  refine (copy_any B p s W HO.out hp (by have := b0.size; omega)).mono ?_
  rintro e w1 ⟨s1, rfl, o1, b1⟩
  have t1 := t0.below b1 t0.lt
  have K := (Kept.refl [w.heap.size] w1).setRow (g := w.heap.size) (by simp) (p.cells s1)
  have S := Same.of_kept (E := EP) (B := B) K (fun x hx _ => by
    simp at hx; subst hx
    exact ⟨hB, t1.not_typ (by decide)⟩)
  have t2 := t1.setRow (p.cells s1)
  have b01 := b0.trans (b1.mono b0.size)
  have HF := hid (And.intro (o1.same S) (b01.trans (K.below (B := w.heap.size) (by simp) b01.size)))
  clear K S o1 b1 b01 HO b0
  go_upto_region 2 with (first
    | (refine wpList_store_row rfl 28 (.tmp 1) (.tmp 4) rfl w.heap.size (p.cells s1) rfl rfl 28 (p.cells s) t1 sz28 rfl (p.cells_one s1) ?_)
    | fail)
  obtain ⟨X, hX⟩ : ∃ X, X = w1.setRow w.heap.size (p.cells s1) := ⟨_, rfl⟩
  rw [← hX] at HF t2 ⊢
  clear hX t1 t0
  have x0 : X.cell? ⟨w.heap.size, 0, none⟩ = some (.int .i64 p.kind) := t2.cell_ (i := 0) rfl
  have b62 := built62 p s1
  have b37 := built37 p s1
  have b63 := built63 p s1
  have b55 := built55 p s1
  have b56 := built56 p s1
  obtain ⟨k, hk⟩ : ∃ k, k = p.kind := ⟨_, rfl⟩
  rw [← hk] at x0
  have HK := hid hk
  clear hk
  rcases kinds k with rfl | rfl | rfl | rfl | rfl | rfl | rfl | rfl | rfl | rfl | rfl | rfl | rfl | rfl | ⟨h, hk⟩
  iterate 14
    · go_wp2_with (first
        | (refine wpList_load_row rfl 28 (.tmp 1) rfl w.heap.size rfl 28 (p.cells s1) (0, 0) _ t2 Try.underlying28 rfl sz28 ?_)
        | (refine wpList_build_one rfl 62 (.tmp 10) rfl (p.cells s1) rfl b62 ?_)
        | (refine wpList_build_one rfl 37 (.tmp 15) rfl (p.cells s1) rfl b37 ?_)
        | (refine wpList_build_one rfl 63 (.tmp 25) rfl (p.cells s1) rfl b63 ?_)
        | (refine wpList_build_one rfl 55 (.tmp 31) rfl (p.cells s1) rfl b55 ?_)
        | (refine wpList_build_one rfl 56 (.tmp 38) rfl (p.cells s1) rfl b56 ?_)
        | fail)
      go_ret
      exact ⟨s1, by rw [← HK.out]; rfl, HF.out.1, HF.out.2⟩
  · have e1 : (k == 1) = false := by simp; omega
    have e2 : (k == 2) = false := by simp; omega
    have e3 : (k == 3) = false := by simp; omega
    have e4 : (k == 4) = false := by simp; omega
    have e5 : (k == 5) = false := by simp; omega
    have e6 : (k == 6) = false := by simp; omega
    have e7 : (k == 7) = false := by simp; omega
    have e8 : (k == 8) = false := by simp; omega
    have e9 : (k == 9) = false := by simp; omega
    have e10 : (k == 10) = false := by simp; omega
    have e11 : (k == 11) = false := by simp; omega
    have e12 : (k == 12) = false := by simp; omega
    have e13 : (k == 13) = false := by simp; omega
    have e14 : (k == 14) = false := by simp; omega
    have HKK := hid hk
    clear h hk
    go_wp2
    go_ret
    exact ⟨s1, by rw [← HK.out, HKK.out]; rfl, HF.out.1, HF.out.2⟩
end Go.Proofs.Ytagcfmmbbcnkbaa
