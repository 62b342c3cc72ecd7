/- The contracts of Packet and Must. -/
import Derived.Test.YtagcfmmbbcnkbaaE
set_option linter.all false
namespace Go.Proofs.Ytagcfmmbbcnkbaa
open Go.RowKit Go.Hub

def PkPost (B : Nat) (w : World) (p : Pk) (e : Ending) (w' : World) : Prop := ∃ s', e = .returned (.tuple #[.agg (p.cells s'), .bool true]) ∧ p.Ok EP B w' s' ∧ Below w.heap.size w w'

set_option maxRecDepth 100000 in
set_option maxHeartbeats 4000000 in
theorem packet_of (B : Nat) (n : Nat) (hn : n < 5) (p : Pk) (s : Ad) (w : World) (h : p.Ok EP B w s) (hp : p.Small) (hB : B ≤ w.heap.size) : Calls Try.prog 10 #[boxed n (p.cells s)] w (PkPost B w p) := by
  have z0 := Blk.new w 28 zeroPk
  have b0 : Below w.heap.size w (w.alloc (.cells zeroPk 28)) := (Below.refl _ _).alloc (Nat.le_refl _) _
  rcases (show n = 0 ∨ n = 1 ∨ n = 2 ∨ n = 3 ∨ n = 4 by omega) with rfl | rfl | rfl | rfl | rfl
  · as_aux_lemma =>
    simp only [boxed]
    have y62 := fun (v : Value) (w : World) => ta_yes (P := Try.prog) Try.underlying62 20 v true w
    have n62 := fun (t : TypeId) (v : Value) (w : World) => ta_no (P := Try.prog) Try.underlying62 zero62 20 t v w
    have z62 := fun (w : World) => ta_nil (P := Try.prog) Try.underlying62 zero62 20 w
    have y37 := fun (v : Value) (w : World) => ta_yes (P := Try.prog) Try.underlying37 20 v true w
    have n37 := fun (t : TypeId) (v : Value) (w : World) => ta_no (P := Try.prog) Try.underlying37 zero37 20 t v w
    have z37 := fun (w : World) => ta_nil (P := Try.prog) Try.underlying37 zero37 20 w
    have y63 := fun (v : Value) (w : World) => ta_yes (P := Try.prog) Try.underlying63 20 v true w
    have n63 := fun (t : TypeId) (v : Value) (w : World) => ta_no (P := Try.prog) Try.underlying63 zero63 20 t v w
    have z63 := fun (w : World) => ta_nil (P := Try.prog) Try.underlying63 zero63 20 w
    have y55 := fun (v : Value) (w : World) => ta_yes (P := Try.prog) Try.underlying55 20 v true w
    have n55 := fun (t : TypeId) (v : Value) (w : World) => ta_no (P := Try.prog) Try.underlying55 zero55 20 t v w
    have z55 := fun (w : World) => ta_nil (P := Try.prog) Try.underlying55 zero55 20 w
    have y56 := fun (v : Value) (w : World) => ta_yes (P := Try.prog) Try.underlying56 20 v true w
    have n56 := fun (t : TypeId) (v : Value) (w : World) => ta_no (P := Try.prog) Try.underlying56 zero56 20 t v w
    have z56 := fun (w : World) => ta_nil (P := Try.prog) Try.underlying56 zero56 20 w
    have F := fresh_row (w.alloc (.cells zeroPk 28)) 62 (p.cells s) rfl
    have zn := Blk.new (w.alloc (.cells zeroPk 28)) 62 zeroPk
    rw [World.size_alloc] at F zn
    have z1 := z0.below F.2 (by simp)
    have b1 := b0.trans (F.2.mono (by simp))
    have o1 := h.old b1
    clear h
    go_enter Try.func10, Try.ntmps10
    go_wp2_with (first
      | (refine wpList_store_row rfl 62 (.tmp 4) (.tmp 12) rfl (w.heap.size + 1) (p.cells s) rfl rfl 62 zeroPk zn sz62 rfl (p.cells_one s) ?_)
      | (refine wpList_load_row rfl 28 (.tmp 13) rfl (w.heap.size + 1) rfl 62 (p.cells s) (0, 0) _ F.1 Try.underlying28 rfl sz28 ?_)
      | fail)
    refine (copy_any B p s _ o1 hp (by have := b1.size; omega)).mono ?_
    rintro e w2 ⟨s2, rfl, o2, b2⟩
    have z2 := z1.below b2 z1.lt
    have bb := b1.trans (b2.mono b1.size)
    have K := (Kept.refl [w.heap.size] w2).setRow (g := w.heap.size) (by simp) (p.cells s2)
    have S := Same.of_kept (E := EP) (B := B) K (fun x hx _ => by
      simp at hx; subst hx
      exact ⟨hB, z2.not_typ (by decide)⟩)
    have HF := hid (And.intro (z2.setRow (p.cells s2)) (And.intro (o2.same S) (bb.trans (K.below (B := w.heap.size) (by simp) bb.size))))
    clear K S bb b2 o2 o1 b1 z1 F zn
    go_wp2_with (first
      | (refine wpList_store_row rfl 28 (.tmp 2) (.tmp 15) rfl w.heap.size (p.cells s2) rfl rfl 28 zeroPk z2 sz28 rfl (p.cells_one s2) ?_)
      | fail)
    exact ret_cell_tmp (g := w.heap.size) rfl _ rfl rfl HF.out.1 Try.underlying28 rfl sz28 rfl ⟨s2, rfl, HF.out.2.1, HF.out.2.2⟩
  · as_aux_lemma =>
    simp only [boxed]
    have y62 := fun (v : Value) (w : World) => ta_yes (P := Try.prog) Try.underlying62 20 v true w
    have n62 := fun (t : TypeId) (v : Value) (w : World) => ta_no (P := Try.prog) Try.underlying62 zero62 20 t v w
    have z62 := fun (w : World) => ta_nil (P := Try.prog) Try.underlying62 zero62 20 w
    have y37 := fun (v : Value) (w : World) => ta_yes (P := Try.prog) Try.underlying37 20 v true w
    have n37 := fun (t : TypeId) (v : Value) (w : World) => ta_no (P := Try.prog) Try.underlying37 zero37 20 t v w
    have z37 := fun (w : World) => ta_nil (P := Try.prog) Try.underlying37 zero37 20 w
    have y63 := fun (v : Value) (w : World) => ta_yes (P := Try.prog) Try.underlying63 20 v true w
    have n63 := fun (t : TypeId) (v : Value) (w : World) => ta_no (P := Try.prog) Try.underlying63 zero63 20 t v w
    have z63 := fun (w : World) => ta_nil (P := Try.prog) Try.underlying63 zero63 20 w
    have y55 := fun (v : Value) (w : World) => ta_yes (P := Try.prog) Try.underlying55 20 v true w
    have n55 := fun (t : TypeId) (v : Value) (w : World) => ta_no (P := Try.prog) Try.underlying55 zero55 20 t v w
    have z55 := fun (w : World) => ta_nil (P := Try.prog) Try.underlying55 zero55 20 w
    have y56 := fun (v : Value) (w : World) => ta_yes (P := Try.prog) Try.underlying56 20 v true w
    have n56 := fun (t : TypeId) (v : Value) (w : World) => ta_no (P := Try.prog) Try.underlying56 zero56 20 t v w
    have z56 := fun (w : World) => ta_nil (P := Try.prog) Try.underlying56 zero56 20 w
    have F := fresh_row (w.alloc (.cells zeroPk 28)) 37 (p.cells s) rfl
    have zn := Blk.new (w.alloc (.cells zeroPk 28)) 37 zeroPk
    rw [World.size_alloc] at F zn
    have z1 := z0.below F.2 (by simp)
    have b1 := b0.trans (F.2.mono (by simp))
    have o1 := h.old b1
    clear h
    go_enter Try.func10, Try.ntmps10
    go_wp2_with (first
      | (refine wpList_store_row rfl 37 (.tmp 5) (.tmp 18) rfl (w.heap.size + 1) (p.cells s) rfl rfl 37 zeroPk zn sz37 rfl (p.cells_one s) ?_)
      | (refine wpList_load_row rfl 28 (.tmp 19) rfl (w.heap.size + 1) rfl 37 (p.cells s) (0, 0) _ F.1 Try.underlying28 rfl sz28 ?_)
      | fail)
    refine (copy_any B p s _ o1 hp (by have := b1.size; omega)).mono ?_
    rintro e w2 ⟨s2, rfl, o2, b2⟩
    have z2 := z1.below b2 z1.lt
    have bb := b1.trans (b2.mono b1.size)
    have K := (Kept.refl [w.heap.size] w2).setRow (g := w.heap.size) (by simp) (p.cells s2)
    have S := Same.of_kept (E := EP) (B := B) K (fun x hx _ => by
      simp at hx; subst hx
      exact ⟨hB, z2.not_typ (by decide)⟩)
    have HF := hid (And.intro (z2.setRow (p.cells s2)) (And.intro (o2.same S) (bb.trans (K.below (B := w.heap.size) (by simp) bb.size))))
    clear K S bb b2 o2 o1 b1 z1 F zn
    go_wp2_with (first
      | (refine wpList_store_row rfl 28 (.tmp 2) (.tmp 21) rfl w.heap.size (p.cells s2) rfl rfl 28 zeroPk z2 sz28 rfl (p.cells_one s2) ?_)
      | fail)
    exact ret_cell_tmp (g := w.heap.size) rfl _ rfl rfl HF.out.1 Try.underlying28 rfl sz28 rfl ⟨s2, rfl, HF.out.2.1, HF.out.2.2⟩
  · as_aux_lemma =>
    simp only [boxed]
    have y62 := fun (v : Value) (w : World) => ta_yes (P := Try.prog) Try.underlying62 20 v true w
    have n62 := fun (t : TypeId) (v : Value) (w : World) => ta_no (P := Try.prog) Try.underlying62 zero62 20 t v w
    have z62 := fun (w : World) => ta_nil (P := Try.prog) Try.underlying62 zero62 20 w
    have y37 := fun (v : Value) (w : World) => ta_yes (P := Try.prog) Try.underlying37 20 v true w
    have n37 := fun (t : TypeId) (v : Value) (w : World) => ta_no (P := Try.prog) Try.underlying37 zero37 20 t v w
    have z37 := fun (w : World) => ta_nil (P := Try.prog) Try.underlying37 zero37 20 w
    have y63 := fun (v : Value) (w : World) => ta_yes (P := Try.prog) Try.underlying63 20 v true w
    have n63 := fun (t : TypeId) (v : Value) (w : World) => ta_no (P := Try.prog) Try.underlying63 zero63 20 t v w
    have z63 := fun (w : World) => ta_nil (P := Try.prog) Try.underlying63 zero63 20 w
    have y55 := fun (v : Value) (w : World) => ta_yes (P := Try.prog) Try.underlying55 20 v true w
    have n55 := fun (t : TypeId) (v : Value) (w : World) => ta_no (P := Try.prog) Try.underlying55 zero55 20 t v w
    have z55 := fun (w : World) => ta_nil (P := Try.prog) Try.underlying55 zero55 20 w
    have y56 := fun (v : Value) (w : World) => ta_yes (P := Try.prog) Try.underlying56 20 v true w
    have n56 := fun (t : TypeId) (v : Value) (w : World) => ta_no (P := Try.prog) Try.underlying56 zero56 20 t v w
    have z56 := fun (w : World) => ta_nil (P := Try.prog) Try.underlying56 zero56 20 w
    have F := fresh_row (w.alloc (.cells zeroPk 28)) 63 (p.cells s) rfl
    have zn := Blk.new (w.alloc (.cells zeroPk 28)) 63 zeroPk
    rw [World.size_alloc] at F zn
    have z1 := z0.below F.2 (by simp)
    have b1 := b0.trans (F.2.mono (by simp))
    have o1 := h.old b1
    clear h
    go_enter Try.func10, Try.ntmps10
    go_wp2_with (first
      | (refine wpList_store_row rfl 63 (.tmp 6) (.tmp 24) rfl (w.heap.size + 1) (p.cells s) rfl rfl 63 zeroPk zn sz63 rfl (p.cells_one s) ?_)
      | (refine wpList_load_row rfl 28 (.tmp 25) rfl (w.heap.size + 1) rfl 63 (p.cells s) (0, 0) _ F.1 Try.underlying28 rfl sz28 ?_)
      | fail)
    refine (copy_any B p s _ o1 hp (by have := b1.size; omega)).mono ?_
    rintro e w2 ⟨s2, rfl, o2, b2⟩
    have z2 := z1.below b2 z1.lt
    have bb := b1.trans (b2.mono b1.size)
    have K := (Kept.refl [w.heap.size] w2).setRow (g := w.heap.size) (by simp) (p.cells s2)
    have S := Same.of_kept (E := EP) (B := B) K (fun x hx _ => by
      simp at hx; subst hx
      exact ⟨hB, z2.not_typ (by decide)⟩)
    have HF := hid (And.intro (z2.setRow (p.cells s2)) (And.intro (o2.same S) (bb.trans (K.below (B := w.heap.size) (by simp) bb.size))))
    clear K S bb b2 o2 o1 b1 z1 F zn
    go_wp2_with (first
      | (refine wpList_store_row rfl 28 (.tmp 2) (.tmp 27) rfl w.heap.size (p.cells s2) rfl rfl 28 zeroPk z2 sz28 rfl (p.cells_one s2) ?_)
      | fail)
    exact ret_cell_tmp (g := w.heap.size) rfl _ rfl rfl HF.out.1 Try.underlying28 rfl sz28 rfl ⟨s2, rfl, HF.out.2.1, HF.out.2.2⟩
  · as_aux_lemma =>
    simp only [boxed]
    have y62 := fun (v : Value) (w : World) => ta_yes (P := Try.prog) Try.underlying62 20 v true w
    have n62 := fun (t : TypeId) (v : Value) (w : World) => ta_no (P := Try.prog) Try.underlying62 zero62 20 t v w
    have z62 := fun (w : World) => ta_nil (P := Try.prog) Try.underlying62 zero62 20 w
    have y37 := fun (v : Value) (w : World) => ta_yes (P := Try.prog) Try.underlying37 20 v true w
    have n37 := fun (t : TypeId) (v : Value) (w : World) => ta_no (P := Try.prog) Try.underlying37 zero37 20 t v w
    have z37 := fun (w : World) => ta_nil (P := Try.prog) Try.underlying37 zero37 20 w
    have y63 := fun (v : Value) (w : World) => ta_yes (P := Try.prog) Try.underlying63 20 v true w
    have n63 := fun (t : TypeId) (v : Value) (w : World) => ta_no (P := Try.prog) Try.underlying63 zero63 20 t v w
    have z63 := fun (w : World) => ta_nil (P := Try.prog) Try.underlying63 zero63 20 w
    have y55 := fun (v : Value) (w : World) => ta_yes (P := Try.prog) Try.underlying55 20 v true w
    have n55 := fun (t : TypeId) (v : Value) (w : World) => ta_no (P := Try.prog) Try.underlying55 zero55 20 t v w
    have z55 := fun (w : World) => ta_nil (P := Try.prog) Try.underlying55 zero55 20 w
    have y56 := fun (v : Value) (w : World) => ta_yes (P := Try.prog) Try.underlying56 20 v true w
    have n56 := fun (t : TypeId) (v : Value) (w : World) => ta_no (P := Try.prog) Try.underlying56 zero56 20 t v w
    have z56 := fun (w : World) => ta_nil (P := Try.prog) Try.underlying56 zero56 20 w
    have F := fresh_row (w.alloc (.cells zeroPk 28)) 55 (p.cells s) rfl
    have zn := Blk.new (w.alloc (.cells zeroPk 28)) 55 zeroPk
    rw [World.size_alloc] at F zn
    have z1 := z0.below F.2 (by simp)
    have b1 := b0.trans (F.2.mono (by simp))
    have o1 := h.old b1
    clear h
    go_enter Try.func10, Try.ntmps10
    go_wp2_with (first
      | (refine wpList_store_row rfl 55 (.tmp 7) (.tmp 30) rfl (w.heap.size + 1) (p.cells s) rfl rfl 55 zeroPk zn sz55 rfl (p.cells_one s) ?_)
      | (refine wpList_load_row rfl 28 (.tmp 31) rfl (w.heap.size + 1) rfl 55 (p.cells s) (0, 0) _ F.1 Try.underlying28 rfl sz28 ?_)
      | fail)
    refine (copy_any B p s _ o1 hp (by have := b1.size; omega)).mono ?_
    rintro e w2 ⟨s2, rfl, o2, b2⟩
    have z2 := z1.below b2 z1.lt
    have bb := b1.trans (b2.mono b1.size)
    have K := (Kept.refl [w.heap.size] w2).setRow (g := w.heap.size) (by simp) (p.cells s2)
    have S := Same.of_kept (E := EP) (B := B) K (fun x hx _ => by
      simp at hx; subst hx
      exact ⟨hB, z2.not_typ (by decide)⟩)
    have HF := hid (And.intro (z2.setRow (p.cells s2)) (And.intro (o2.same S) (bb.trans (K.below (B := w.heap.size) (by simp) bb.size))))
    clear K S bb b2 o2 o1 b1 z1 F zn
    go_wp2_with (first
      | (refine wpList_store_row rfl 28 (.tmp 2) (.tmp 33) rfl w.heap.size (p.cells s2) rfl rfl 28 zeroPk z2 sz28 rfl (p.cells_one s2) ?_)
      | fail)
    exact ret_cell_tmp (g := w.heap.size) rfl _ rfl rfl HF.out.1 Try.underlying28 rfl sz28 rfl ⟨s2, rfl, HF.out.2.1, HF.out.2.2⟩
  · as_aux_lemma =>
    simp only [boxed]
    have y62 := fun (v : Value) (w : World) => ta_yes (P := Try.prog) Try.underlying62 20 v true w
    have n62 := fun (t : TypeId) (v : Value) (w : World) => ta_no (P := Try.prog) Try.underlying62 zero62 20 t v w
    have z62 := fun (w : World) => ta_nil (P := Try.prog) Try.underlying62 zero62 20 w
    have y37 := fun (v : Value) (w : World) => ta_yes (P := Try.prog) Try.underlying37 20 v true w
    have n37 := fun (t : TypeId) (v : Value) (w : World) => ta_no (P := Try.prog) Try.underlying37 zero37 20 t v w
    have z37 := fun (w : World) => ta_nil (P := Try.prog) Try.underlying37 zero37 20 w
    have y63 := fun (v : Value) (w : World) => ta_yes (P := Try.prog) Try.underlying63 20 v true w
    have n63 := fun (t : TypeId) (v : Value) (w : World) => ta_no (P := Try.prog) Try.underlying63 zero63 20 t v w
    have z63 := fun (w : World) => ta_nil (P := Try.prog) Try.underlying63 zero63 20 w
    have y55 := fun (v : Value) (w : World) => ta_yes (P := Try.prog) Try.underlying55 20 v true w
    have n55 := fun (t : TypeId) (v : Value) (w : World) => ta_no (P := Try.prog) Try.underlying55 zero55 20 t v w
    have z55 := fun (w : World) => ta_nil (P := Try.prog) Try.underlying55 zero55 20 w
    have y56 := fun (v : Value) (w : World) => ta_yes (P := Try.prog) Try.underlying56 20 v true w
    have n56 := fun (t : TypeId) (v : Value) (w : World) => ta_no (P := Try.prog) Try.underlying56 zero56 20 t v w
    have z56 := fun (w : World) => ta_nil (P := Try.prog) Try.underlying56 zero56 20 w
    have F := fresh_row (w.alloc (.cells zeroPk 28)) 56 (p.cells s) rfl
    have zn := Blk.new (w.alloc (.cells zeroPk 28)) 56 zeroPk
    rw [World.size_alloc] at F zn
    have z1 := z0.below F.2 (by simp)
    have b1 := b0.trans (F.2.mono (by simp))
    have o1 := h.old b1
    clear h
    go_enter Try.func10, Try.ntmps10
    go_wp2_with (first
      | (refine wpList_store_row rfl 56 (.tmp 8) (.tmp 36) rfl (w.heap.size + 1) (p.cells s) rfl rfl 56 zeroPk zn sz56 rfl (p.cells_one s) ?_)
      | (refine wpList_load_row rfl 28 (.tmp 37) rfl (w.heap.size + 1) rfl 56 (p.cells s) (0, 0) _ F.1 Try.underlying28 rfl sz28 ?_)
      | fail)
    refine (copy_any B p s _ o1 hp (by have := b1.size; omega)).mono ?_
    rintro e w2 ⟨s2, rfl, o2, b2⟩
    have z2 := z1.below b2 z1.lt
    have bb := b1.trans (b2.mono b1.size)
    have K := (Kept.refl [w.heap.size] w2).setRow (g := w.heap.size) (by simp) (p.cells s2)
    have S := Same.of_kept (E := EP) (B := B) K (fun x hx _ => by
      simp at hx; subst hx
      exact ⟨hB, z2.not_typ (by decide)⟩)
    have HF := hid (And.intro (z2.setRow (p.cells s2)) (And.intro (o2.same S) (bb.trans (K.below (B := w.heap.size) (by simp) bb.size))))
    clear K S bb b2 o2 o1 b1 z1 F zn
    go_wp2_with (first
      | (refine wpList_store_row rfl 28 (.tmp 2) (.tmp 39) rfl w.heap.size (p.cells s2) rfl rfl 28 zeroPk z2 sz28 rfl (p.cells_one s2) ?_)
      | fail)
    exact ret_cell_tmp (g := w.heap.size) rfl _ rfl rfl HF.out.1 Try.underlying28 rfl sz28 rfl ⟨s2, rfl, HF.out.2.1, HF.out.2.2⟩
def zeroC : Array Value := zeroPk
theorem zc62 (w : World) : (zeroValue 62).run Try.prog w = .ok (.agg zeroC) w := by kernel_rfl
theorem zc37 (w : World) : (zeroValue 37).run Try.prog w = .ok (.agg zeroC) w := by kernel_rfl
theorem zc63 (w : World) : (zeroValue 63).run Try.prog w = .ok (.agg zeroC) w := by kernel_rfl
theorem zc55 (w : World) : (zeroValue 55).run Try.prog w = .ok (.agg zeroC) w := by kernel_rfl
theorem zc56 (w : World) : (zeroValue 56).run Try.prog w = .ok (.agg zeroC) w := by kernel_rfl
theorem zeroC_one : zeroC.all (·.oneCell') = true := by kernel_rfl
theorem builtZ : Try.prog.built 28 [] = some zeroC := by kernel_rfl
/-- 'T{}' at the operation -/
theorem wpList_build_none {P : Program} {ops : Array Oper} {rest : List Oper} {o : Oper} {a : Act} {w : World} {Q : Exit → Act → World → Prop} (hg : o.guard = none) (t : TypeId) (ho : o.op = .build t #[]) (cs : Array Value)
    (hb : P.built t [] = some cs) (h : wpList P ops Q rest (a.put o.dst (.agg cs)) w) : wpList P ops Q (o :: rest) a w := by
  have e : (P.built t (((#[] : Array (Nat × Operand)).map fun (i, x) => (i, a.eval x))).toList) = some cs := by simpa using hb
  refine wpList_build hg t #[] ho (by rw [e]; rfl) ?_
  rw [e]
  exact h
set_option maxRecDepth 100000 in
set_option maxHeartbeats 2000000 in
theorem packet_other (x : Value) (hx : Other x) (w : World) : Calls Try.prog 10 #[x] w fun e w' => e = .returned (.tuple #[.agg zeroPk, .bool false]) ∧ Below w.heap.size w w' := by
  have z0 := Blk.new w 28 zeroPk
  have b0 : Below w.heap.size w (w.alloc (.cells zeroPk 28)) := (Below.refl _ _).alloc (Nat.le_refl _) _
  have F := fresh_row w 28 zeroC rfl
  have HB := hid F
  clear F b0
  rcases hx with rfl | ⟨t, v, rfl, h1, h2, h3, h4, h5⟩
  all_goals as_aux_lemma =>
    have n62 := fun (t : TypeId) (v : Value) (w : World) => ta_no (P := Try.prog) Try.underlying62 zc62 20 t v w
    have z62 := fun (w : World) => ta_nil (P := Try.prog) Try.underlying62 zc62 20 w
    have n37 := fun (t : TypeId) (v : Value) (w : World) => ta_no (P := Try.prog) Try.underlying37 zc37 20 t v w
    have z37 := fun (w : World) => ta_nil (P := Try.prog) Try.underlying37 zc37 20 w
    have n63 := fun (t : TypeId) (v : Value) (w : World) => ta_no (P := Try.prog) Try.underlying63 zc63 20 t v w
    have z63 := fun (w : World) => ta_nil (P := Try.prog) Try.underlying63 zc63 20 w
    have n55 := fun (t : TypeId) (v : Value) (w : World) => ta_no (P := Try.prog) Try.underlying55 zc55 20 t v w
    have z55 := fun (w : World) => ta_nil (P := Try.prog) Try.underlying55 zc55 20 w
    have n56 := fun (t : TypeId) (v : Value) (w : World) => ta_no (P := Try.prog) Try.underlying56 zc56 20 t v w
    have z56 := fun (w : World) => ta_nil (P := Try.prog) Try.underlying56 zc56 20 w
    go_enter Try.func10, Try.ntmps10
    go_wp2_with (first
      | (refine wpList_build_none rfl 28 rfl zeroC builtZ ?_)
      | (refine wpList_store_row rfl 28 (.tmp 2) (.tmp 40) rfl w.heap.size zeroC rfl rfl 28 zeroPk z0 sz28 rfl zeroC_one ?_)
      | fail)
    exact ret_cell_tmp (g := w.heap.size) rfl _ rfl rfl HB.out.1 Try.underlying28 rfl sz28 rfl ⟨rfl, HB.out.2⟩

end Go.Proofs.Ytagcfmmbbcnkbaa
