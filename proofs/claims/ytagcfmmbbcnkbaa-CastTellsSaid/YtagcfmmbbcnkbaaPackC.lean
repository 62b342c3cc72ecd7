/- The contract of hubbubseat.Packet, an Unsubscribe. -/
import Derived.Test.YtagcfmmbbcnkbaaPackB
set_option linter.all false
namespace Go.Proofs.Ytagcfmmbbcnkbaa
open Go.RowKit Go.Hub

theorem built58 (t : ByteArray) : Try.prog.built 58 [(0, .string t)] = some #[.string t, .int .i64 0] := by kernel_rfl
theorem built582 (t : ByteArray) (q : Int) : Try.prog.built 58 [(0, .string t), (1, .int .i64 q)] = some #[.string t, .int .i64 q] := by kernel_rfl
theorem builtS (k i : Int) (l : List (ByteArray × Int)) (A : Option Addr) (c : Nat) : Try.prog.built 28 [(0, .int .i64 k), (4, .int .i64 i), (19, .slice A l.length c)] = some (Pk.cells { kind := k, id := i, subs := l } { s0 with ua := A, uc := c }) := by kernel_rfl
theorem cs_new (E : List TypeId) (he : 58 ∈ E) (B : Nat) (w : World) (l : List (ByteArray × Int)) (m : List (ByteArray × Int)) : Cs E B (w.alloc (.cells (subCells (l ++ m)).toArray 58)) (some ⟨w.heap.size, 0, none⟩) l.length 2 (subCells l) := by
  refine ⟨subCells_len l, fun _ => ⟨w.heap.size, 0, rfl, by simp, .inr ⟨_, 58, _, heap_alloc_new w _, he⟩, fun j u hu => ?_⟩⟩
  rw [Nat.zero_add, World.cell?_alloc_new]
  have e : subCells (l ++ m) = subCells l ++ subCells m := by simp [subCells]
  have hj : j < (subCells l).length := (List.getElem?_eq_some_iff.1 hu).1
  rw [e]
  simp only [List.getElem?_toArray]
  rw [List.getElem?_append_left hj]
  exact hu
set_option maxRecDepth 100000 in
set_option maxHeartbeats 1000000 in
theorem packet_un (B : Nat) (k a b c : Int) (v : Value) (w : World) (hq : k % 15 = 7) (hk0 : 0 ≤ k) (hk1 : k ≤ 255) (ha : 0 ≤ a ∧ a ≤ 255) (hb : 0 ≤ b ∧ b ≤ 255) (hc : 0 ≤ c ∧ c ≤ 255) (hB : B ≤ w.heap.size) :
    Calls Try.prog 8 #[.int .u8 k, .int .u8 a, .int .u8 b, .int .u8 c, v] w (PkRet B w) := by
  have z := Blk.new w 28 zeroPk
  have b0 : Below w.heap.size w (w.alloc (.cells zeroPk 28)) := (Below.refl _ _).alloc (Nat.le_refl _) _
  have HH := hid (And.intro ha (And.intro hc (And.intro z b0)))
  obtain ⟨hb0, hb1⟩ := hb
  obtain ⟨hc0, hc1⟩ := hc
  clear ha z b0
  rcases (show c % 2 = 0 ∨ c % 2 = 1 by omega) with hc2 | hc2
  · go_enter Try.func8, Try.ntmps8
    go_wp2_with fail
    refine (filter_any a HH.out.1 _).mono ?_
    rintro e w1 ⟨t1, rfl, _, b1⟩
    go_wp2_with (first
      | (refine wpList_build_any rfl 58 _ rfl [(0, .string t1)] rfl _ (built58 t1) ?_)
      | fail)
    refine (filter_any c HH.out.2.1 _).mono ?_
    rintro e w2 ⟨t2, rfl, _, b2⟩
    have z1 := HH.out.2.2.1.below b1 HH.out.2.2.1.lt
    have z2 := z1.below b2 z1.lt
    have d1 := HH.out.2.2.2.trans (b1.mono HH.out.2.2.2.size)
    have d2 := d1.trans (b2.mono d1.size)
    have hcs : Cs EP B (w2.alloc (.cells #[.string t1, .int .i64 0, .string t2, .int .i64 0] 58)) (some ⟨w2.heap.size, 0, none⟩) 1 2 (subCells [(t1, 0)]) := cs_new EP ep58 B w2 [(t1, 0)] [(t2, 0)]
    obtain ⟨P1, hP1⟩ : ∃ P : Pk, P = { kind := 10, id := b % 7 + 1, subs := [(t1, 0)] } := ⟨_, rfl⟩
    obtain ⟨s1, hs1⟩ : ∃ s : Ad, s = { s0 with ua := some ⟨w2.heap.size, 0, none⟩, uc := 2 } := ⟨_, rfl⟩
    have hbt : Try.prog.built 28 [(0, .int .i64 10), (4, .int .i64 (b % 7 + 1)), (19, .slice (some ⟨w2.heap.size, 0, none⟩) 1 2)] = some (P1.cells s1) := by rw [hP1, hs1]; exact builtS 10 (b % 7 + 1) [(t1, 0)] (some ⟨w2.heap.size, 0, none⟩) 2
    obtain ⟨W3, hW3⟩ : ∃ W, W = w2.alloc (.cells #[.string t1, .int .i64 0, .string t2, .int .i64 0] 58) := ⟨_, rfl⟩
    have b3 : Below w2.heap.size w2 W3 := by rw [hW3]; exact (Below.refl _ _).alloc (Nat.le_refl _) _
    rw [← hW3] at hcs
    have d3 := d2.trans (b3.mono d2.size)
    have z3 := z2.below b3 z2.lt
    have hok : P1.Ok EP B W3 s1 := by rw [hP1, hs1]; exact ⟨Bs.nil _ _ _ _, Bs.nil _ _ _ _, Bs.nil _ _ _ _, hcs, Cs.nil _ _ _ _ _⟩
    have hlt : Light P1 := by rw [hP1]; unfold Light; simp
    have K := (Kept.refl [w.heap.size] W3).setRow (g := w.heap.size) (by simp) (P1.cells s1)
    have S := Same.of_kept (E := EP) (B := B) K (fun x hx _ => by
      simp at hx; subst hx
      exact ⟨hB, z3.not_typ (by decide)⟩)
    have HF := hid (And.intro (z3.setRow (P1.cells s1)) (And.intro (hok.same S) (And.intro hlt (d3.trans (K.below (B := w.heap.size) (by simp) d3.size)))))
    have HZ := hid z3
    clear K S hok hlt hcs z1 z2 z3 d1 d2 d3 b1 b2 b3 hP1 hs1
    go_wp2_with (first
      | (refine wpList_build_any rfl 58 _ rfl [(0, .string t2)] rfl _ (built58 t2) ?_)
      | (refine wpList_build_any rfl 28 _ rfl [(0, .int .i64 10), (4, .int .i64 (b % 7 + 1)), (19, .slice (some ⟨w2.heap.size, 0, none⟩) 1 2)] rfl _ hbt ?_)
      | (rw [← hW3]; refine wpList_store_row rfl 28 (.tmp 10) (.tmp 99) rfl w.heap.size (P1.cells s1) rfl rfl 28 zeroPk HZ.out sz28 rfl (P1.cells_one s1) ?_)
      | fail)
    exact ret_cell (g := w.heap.size) rfl _ rfl HF.out.1 Try.underlying28 rfl sz28 rfl ⟨P1, s1, rfl, HF.out.2.1, HF.out.2.2.1, HF.out.2.2.2⟩
  · go_enter Try.func8, Try.ntmps8
    go_wp2_with fail
    refine (filter_any a HH.out.1 _).mono ?_
    rintro e w1 ⟨t1, rfl, _, b1⟩
    go_wp2_with (first
      | (refine wpList_build_any rfl 58 _ rfl [(0, .string t1)] rfl _ (built58 t1) ?_)
      | fail)
    refine (filter_any c HH.out.2.1 _).mono ?_
    rintro e w2 ⟨t2, rfl, _, b2⟩
    have z1 := HH.out.2.2.1.below b1 HH.out.2.2.1.lt
    have z2 := z1.below b2 z1.lt
    have d1 := HH.out.2.2.2.trans (b1.mono HH.out.2.2.2.size)
    have d2 := d1.trans (b2.mono d1.size)
    have hcs : Cs EP B (w2.alloc (.cells #[.string t1, .int .i64 0, .string t2, .int .i64 0] 58)) (some ⟨w2.heap.size, 0, none⟩) 2 2 (subCells [(t1, 0), (t2, 0)]) := cs_new EP ep58 B w2 [(t1, 0), (t2, 0)] []
    obtain ⟨P1, hP1⟩ : ∃ P : Pk, P = { kind := 10, id := b % 7 + 1, subs := [(t1, 0), (t2, 0)] } := ⟨_, rfl⟩
    obtain ⟨s1, hs1⟩ : ∃ s : Ad, s = { s0 with ua := some ⟨w2.heap.size, 0, none⟩, uc := 2 } := ⟨_, rfl⟩
    have hbt : Try.prog.built 28 [(0, .int .i64 10), (4, .int .i64 (b % 7 + 1)), (19, .slice (some ⟨w2.heap.size, 0, none⟩) 2 2)] = some (P1.cells s1) := by rw [hP1, hs1]; exact builtS 10 (b % 7 + 1) [(t1, 0), (t2, 0)] (some ⟨w2.heap.size, 0, none⟩) 2
    obtain ⟨W3, hW3⟩ : ∃ W, W = w2.alloc (.cells #[.string t1, .int .i64 0, .string t2, .int .i64 0] 58) := ⟨_, rfl⟩
    have b3 : Below w2.heap.size w2 W3 := by rw [hW3]; exact (Below.refl _ _).alloc (Nat.le_refl _) _
    rw [← hW3] at hcs
    have d3 := d2.trans (b3.mono d2.size)
    have z3 := z2.below b3 z2.lt
    have hok : P1.Ok EP B W3 s1 := by rw [hP1, hs1]; exact ⟨Bs.nil _ _ _ _, Bs.nil _ _ _ _, Bs.nil _ _ _ _, hcs, Cs.nil _ _ _ _ _⟩
    have hlt : Light P1 := by rw [hP1]; unfold Light; simp
    have K := (Kept.refl [w.heap.size] W3).setRow (g := w.heap.size) (by simp) (P1.cells s1)
    have S := Same.of_kept (E := EP) (B := B) K (fun x hx _ => by
      simp at hx; subst hx
      exact ⟨hB, z3.not_typ (by decide)⟩)
    have HF := hid (And.intro (z3.setRow (P1.cells s1)) (And.intro (hok.same S) (And.intro hlt (d3.trans (K.below (B := w.heap.size) (by simp) d3.size)))))
    have HZ := hid z3
    clear K S hok hlt hcs z1 z2 z3 d1 d2 d3 b1 b2 b3 hP1 hs1
    go_wp2_with (first
      | (refine wpList_build_any rfl 58 _ rfl [(0, .string t2)] rfl _ (built58 t2) ?_)
      | (refine wpList_build_any rfl 28 _ rfl [(0, .int .i64 10), (4, .int .i64 (b % 7 + 1)), (19, .slice (some ⟨w2.heap.size, 0, none⟩) 2 2)] rfl _ hbt ?_)
      | (rw [← hW3]; refine wpList_store_row rfl 28 (.tmp 10) (.tmp 99) rfl w.heap.size (P1.cells s1) rfl rfl 28 zeroPk HZ.out sz28 rfl (P1.cells_one s1) ?_)
      | fail)
    exact ret_cell (g := w.heap.size) rfl _ rfl HF.out.1 Try.underlying28 rfl sz28 rfl ⟨P1, s1, rfl, HF.out.2.1, HF.out.2.2.1, HF.out.2.2.2⟩
end Go.Proofs.Ytagcfmmbbcnkbaa
