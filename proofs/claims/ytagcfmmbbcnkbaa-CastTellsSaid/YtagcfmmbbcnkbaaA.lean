/- The contracts of bytes.Clone and slices.Clone. -/
import Derived.Test.YtagcfmmbbcnkbaaRows
import Derived.Test.YtagcfmmbbcnkbaaPk
set_option linter.all false
namespace Go.Proofs.Ytagcfmmbbcnkbaa
open Go.RowKit Go.Hub

theorem info5 : (Try.prog.info? 5).map (fun i => (i.zero, i.size, i.bytes)) = some (some (.int .u8 0), 1, 1) := by kernel_rfl
theorem info3 : (Try.prog.info? 3).map (fun i => (i.zero, i.size, i.bytes)) = some (some (.int .i64 0), 1, 8) := by kernel_rfl
theorem info58 : (Try.prog.info? 58).map (fun i => (i.zero, i.size, i.bytes)) = some (some (.agg #[.string ⟨#[]⟩, .int .i64 0]), 2, 24) := by kernel_rfl

set_option maxHeartbeats 400000 in
theorem cloneB (EE : List TypeId) (hE : 5 ∈ EE) (B : Nat) (A : Option Addr) (n c : Nat) (xs : List Value) (w : World) (h : Cs EE B w A n 1 xs) (h1 : ∀ u ∈ xs, u.oneCell' = true) (hn : n ≤ 1000000) :
    Calls Try.prog 25 #[.slice A n c] w fun e w' => ∃ A' c', e = .returned (.slice A' n c') ∧ Cs EE B w' A' n 1 xs ∧ Below w.heap.size w w' := by
  obtain ⟨i0, hi0, hz0, hz1, hz2⟩ := info_parts info5
  have hq := fun (w : World) => Lib.run_eql_slice_nil (P := Try.prog) w 22 5 A n c 0 0 Try.underlying22
  rcases A with _ | a
  · have h0 : n = 0 := by
      rcases Nat.eq_zero_or_pos n with h0 | h0
      · exact h0
      · obtain ⟨b, off, e, _⟩ := h.2 h0
        cases e
    subst h0
    have key : ∃ A' c', Ending.returned (.slice none 0 0) = .returned (.slice A' 0 c') ∧ Cs EE B w A' 0 1 xs ∧ Below w.heap.size w w := ⟨none, 0, rfl, h, Below.refl _ _⟩
    have K := hid key
    clear key h
    go_enter Try.func25, Try.ntmps25
    go_wp2
    go_ret
    exact K.out
  · have hown : Own (w.alloc (.cells #[] 5)) 5 1 (.slice (some ⟨w.heap.size, 0, none⟩) 0 0) 0 [] :=
      ⟨rfl, .inr ⟨w.heap.size, 0, 0, #[], rfl, heap_alloc_new w _, Nat.le_refl _, by simp [maxLen], by simp, fun j u hu => by simp at hu⟩⟩
    have hr := h.rds
    have hr2 : Rds (w.alloc (.cells #[] 5)) w.heap.size 1 (some a) n xs := hr.alloc (Nat.le_refl _) _
    have hb1 : 0 + n ≤ maxLen := by unfold maxLen; omega
    have hb2 : (0 + n) * 1 ≤ 140737488355328 := by omega
    have HE := hid hE
    clear h hr hE
    go_enter Try.func25, Try.ntmps25
    go_wp2_with (first
      | (at_builtin
         refine wpList_append_own' _ rfl (.tmp 5) (.tmp 6) _ rfl 5 i0 _ 1 1 Try.underlying22 hi0 hz0 hz1 hz2 rfl (by omega) (.slice (some ⟨w.heap.size, 0, none⟩) 0 0) 0 [] rfl hown _ _ _ _ _ rfl hr2 h1 hb1 hb2 ?_
         intro v1 w1 hown1 hk1 hb1))
    go_ret
    obtain ⟨A', c', hv, _⟩ := hown1.form
    rw [hv] at hown1
    refine ⟨A', c', by rw [← Nat.zero_add n]; exact congrArg _ hv, ?_, ?_⟩
    · exact Cs.of_own (by simpa using hown1) HE.out
    · have : Kept [] w w1 := ((Kept.refl [] w).alloc _).trans hk1 (fun x hx hlt => by simp [Value.ownBlock] at hx; omega)
      exact this.below (by simp) (Nat.le_refl _)

set_option maxHeartbeats 400000 in
theorem cloneS (EE : List TypeId) (hE : 58 ∈ EE) (B : Nat) (A : Option Addr) (n c : Nat) (xs : List Value) (w : World) (h : Cs EE B w A n 2 xs) (h1 : ∀ u ∈ xs, u.oneCell' = true) (hn : n ≤ 1000000) :
    Calls Try.prog 26 #[.slice A n c] w fun e w' => ∃ A' c', e = .returned (.slice A' n c') ∧ Cs EE B w' A' n 2 xs ∧ Below w.heap.size w w' := by
  obtain ⟨i0, hi0, hz0, hz1, hz2⟩ := info_parts info58
  have hq := fun (w : World) => Lib.run_eql_slice_nil (P := Try.prog) w 25 58 A n c 0 0 Try.underlying25
  rcases A with _ | a
  · have h0 : n = 0 := by
      rcases Nat.eq_zero_or_pos n with h0 | h0
      · exact h0
      · obtain ⟨b, off, e, _⟩ := h.2 h0
        cases e
    subst h0
    have key : ∃ A' c', Ending.returned (.slice none 0 0) = .returned (.slice A' 0 c') ∧ Cs EE B w A' 0 2 xs ∧ Below w.heap.size w w := ⟨none, 0, rfl, h, Below.refl _ _⟩
    have K := hid key
    clear key h
    go_enter Try.func26, Try.ntmps26
    go_wp2
    go_ret
    exact K.out
  · have hown : Own (w.alloc (.cells #[] 58)) 58 2 (.slice (some ⟨w.heap.size, 0, none⟩) 0 0) 0 [] :=
      ⟨rfl, .inr ⟨w.heap.size, 0, 0, #[], rfl, heap_alloc_new w _, Nat.le_refl _, by simp [maxLen], by simp, fun j u hu => by simp at hu⟩⟩
    have hr := h.rds
    have hr2 : Rds (w.alloc (.cells #[] 58)) w.heap.size 2 (some a) n xs := hr.alloc (Nat.le_refl _) _
    have hb1 : 0 + n ≤ maxLen := by unfold maxLen; omega
    have hb2 : (0 + n) * 24 ≤ 140737488355328 := by omega
    have HE := hid hE
    clear h hr hE
    go_enter Try.func26, Try.ntmps26
    go_wp2_with (first
      | (at_builtin
         refine wpList_append_own' _ rfl (.tmp 5) (.tmp 6) _ rfl 58 i0 _ 2 24 Try.underlying25 hi0 hz0 hz1 hz2 rfl (by omega) (.slice (some ⟨w.heap.size, 0, none⟩) 0 0) 0 [] rfl hown _ _ _ _ _ rfl hr2 h1 hb1 hb2 ?_
         intro v1 w1 hown1 hk1 hb1))
    go_ret
    obtain ⟨A', c', hv, _⟩ := hown1.form
    rw [hv] at hown1
    refine ⟨A', c', by rw [← Nat.zero_add n]; exact congrArg _ hv, ?_, ?_⟩
    · exact Cs.of_own (by simpa using hown1) HE.out
    · have : Kept [] w w1 := ((Kept.refl [] w).alloc _).trans hk1 (fun x hx hlt => by simp [Value.ownBlock] at hx; omega)
      exact this.below (by simp) (Nat.le_refl _)

set_option maxHeartbeats 400000 in
theorem cloneI (EE : List TypeId) (hE : 3 ∈ EE) (B : Nat) (A : Option Addr) (n c : Nat) (xs : List Value) (w : World) (h : Cs EE B w A n 1 xs) (h1 : ∀ u ∈ xs, u.oneCell' = true) (hn : n ≤ 1000000) :
    Calls Try.prog 27 #[.slice A n c] w fun e w' => ∃ A' c', e = .returned (.slice A' n c') ∧ Cs EE B w' A' n 1 xs ∧ Below w.heap.size w w' := by
  obtain ⟨i0, hi0, hz0, hz1, hz2⟩ := info_parts info3
  have hq := fun (w : World) => Lib.run_eql_slice_nil (P := Try.prog) w 26 3 A n c 0 0 Try.underlying26
  rcases A with _ | a
  · have h0 : n = 0 := by
      rcases Nat.eq_zero_or_pos n with h0 | h0
      · exact h0
      · obtain ⟨b, off, e, _⟩ := h.2 h0
        cases e
    subst h0
    have key : ∃ A' c', Ending.returned (.slice none 0 0) = .returned (.slice A' 0 c') ∧ Cs EE B w A' 0 1 xs ∧ Below w.heap.size w w := ⟨none, 0, rfl, h, Below.refl _ _⟩
    have K := hid key
    clear key h
    go_enter Try.func27, Try.ntmps27
    go_wp2
    go_ret
    exact K.out
  · have hown : Own (w.alloc (.cells #[] 3)) 3 1 (.slice (some ⟨w.heap.size, 0, none⟩) 0 0) 0 [] :=
      ⟨rfl, .inr ⟨w.heap.size, 0, 0, #[], rfl, heap_alloc_new w _, Nat.le_refl _, by simp [maxLen], by simp, fun j u hu => by simp at hu⟩⟩
    have hr := h.rds
    have hr2 : Rds (w.alloc (.cells #[] 3)) w.heap.size 1 (some a) n xs := hr.alloc (Nat.le_refl _) _
    have hb1 : 0 + n ≤ maxLen := by unfold maxLen; omega
    have hb2 : (0 + n) * 8 ≤ 140737488355328 := by omega
    have HE := hid hE
    clear h hr hE
    go_enter Try.func27, Try.ntmps27
    go_wp2_with (first
      | (at_builtin
         refine wpList_append_own' _ rfl (.tmp 5) (.tmp 6) _ rfl 3 i0 _ 1 8 Try.underlying26 hi0 hz0 hz1 hz2 rfl (by omega) (.slice (some ⟨w.heap.size, 0, none⟩) 0 0) 0 [] rfl hown _ _ _ _ _ rfl hr2 h1 hb1 hb2 ?_
         intro v1 w1 hown1 hk1 hb1))
    go_ret
    obtain ⟨A', c', hv, _⟩ := hown1.form
    rw [hv] at hown1
    refine ⟨A', c', by rw [← Nat.zero_add n]; exact congrArg _ hv, ?_, ?_⟩
    · exact Cs.of_own (by simpa using hown1) HE.out
    · have : Kept [] w w1 := ((Kept.refl [] w).alloc _).trans hk1 (fun x hx hlt => by simp [Value.ownBlock] at hx; omega)
      exact this.below (by simp) (Nat.le_refl _)

theorem Bs.cs {E : List TypeId} {B : Nat} {w : World} {A : Option Addr} {n : Nat} {l : List UInt8} (h : Bs E B w A n l) : Cs E B w A n 1 (l.map u8) :=
  ⟨by simp [h.1], fun hn => by
    obtain ⟨b, off, e, hb, ht, hc⟩ := h.2 hn
    refine ⟨b, off, e, hb, ht, fun j u hu => ?_⟩
    simp only [List.getElem?_map, Option.map_eq_some_iff] at hu
    obtain ⟨x, hx, rfl⟩ := hu
    exact hc j x hx⟩
theorem Cs.bs {E : List TypeId} {B : Nat} {w : World} {A : Option Addr} {n : Nat} {l : List UInt8} (h : Cs E B w A n 1 (l.map u8)) : Bs E B w A n l :=
  ⟨by have := h.1; simpa using this, fun hn => by
    obtain ⟨b, off, e, hb, ht, hc⟩ := h.2 hn
    exact ⟨b, off, e, hb, ht, fun j x hx => hc j _ (by simp [hx])⟩⟩
theorem clone_bytes (EE : List TypeId) (hE : 5 ∈ EE) (B : Nat) (A : Option Addr) (c : Nat) (l : List UInt8) (w : World) (h : Bs EE B w A l.length l) (hn : l.length ≤ 1000000) :
    Calls Try.prog 25 #[.slice A l.length c] w fun e w' => ∃ A' c', e = .returned (.slice A' l.length c') ∧ Bs EE B w' A' l.length l ∧ Below w.heap.size w w' :=
  (cloneB EE hE B A l.length c _ w (Bs.cs h) u8_one hn).mono fun e w' ⟨A', c', he, hc, hb⟩ => ⟨A', c', he, Cs.bs hc, hb⟩
end Go.Proofs.Ytagcfmmbbcnkbaa
