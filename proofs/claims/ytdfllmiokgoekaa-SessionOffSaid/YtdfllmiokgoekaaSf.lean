/- The contract of slices.Delete for one element. -/
import Derived.Test.YtdfllmiokgoekaaSe
import Derived.Test.YtdfllmiokgoekaaDel
set_option linter.all false
namespace Go.Proofs.Ytdfllmiokgoekaa
open Go.RowKit Go.Hub

theorem info61 : (Try.prog.info? 61).map (fun i => (i.zero, i.size, i.bytes)) = some (some (.agg #[.string ByteArray.empty, .slice none 0 0, .int .i64 0, .bool false, .int .i64 0, .int .i64 0, .bool false]), 7, 80) := by kernel_rfl
theorem zero61 (w : World) : (zeroValue 61).run Try.prog w = .ok (.agg #[.string ByteArray.empty, .slice none 0 0, .int .i64 0, .bool false, .int .i64 0, .int .i64 0, .bool false]) w := by kernel_rfl

set_option maxHeartbeats 1000000 in
theorem del_any (g off n c i : Nat) (xs : List Value) (w : World) (ho : Own w 61 7 (.slice (some ⟨g, off, none⟩) n c) n xs) (h1 : ∀ u ∈ xs, u.oneCell' = true) (hi : i < n) :
    Calls Try.prog 36 #[.slice (some ⟨g, off, none⟩) n c, .int .i64 i, .int .i64 (i + 1)] w fun e w' => e = .returned (.slice (some ⟨g, off, none⟩) (n - 1) c) ∧ Own w' 61 7 (.slice (some ⟨g, off, none⟩) (n - 1) c) (n - 1) (xs.take (i * 7) ++ xs.drop ((i + 1) * 7)) ∧ Kept [g] w w' := by
  obtain ⟨A, c', e, hc1, hc2⟩ := ho.form
  injection e with e1 e2 e3
  subst e1 e3
  obtain ⟨m, rfl⟩ : ∃ m, n = i + 1 + m := ⟨n - (i + 1), by omega⟩
  obtain ⟨i0, hi0, hz0, hz1, hz2⟩ := info_parts info61
  unfold maxLen at hc2
  have hne : ((i : Int) == (i : Int) + 1) = false := by simp; omega
  rw [show i + 1 + m - 1 = i + m from by omega]
  go_enter Try.func36, Try.ntmps36
  by_cases hc : c = i + 1
  · obtain rfl : m = 0 := by omega
    subst hc
    have hhead := ho.head (k := i) (by omega)
    have htail : Rds w w.heap.size 7 (some ⟨g, off, none⟩) 0 (xs.drop ((i + 1) * 7)) := by
      have := ho.1
      rw [List.drop_eq_nil_of_le (by omega)]
      exact Rds.nil _ _ _ _
    have hu : ∀ u ∈ xs.drop ((i + 1) * 7), u.oneCell' = true := fun u hu => h1 u (List.mem_of_mem_drop hu)
    have q1 : ((i : Int) + 1).toNat = i + 1 := by omega
    have q2 : IntKind.i64.wrap ((i : Int) + 1) = (i : Int) + 1 := by rw [IntKind.wrap_i64]; omega
    have q5 : (0 : Int) ≤ (i : Int) := by omega
    have q6 : (i : Int) ≤ (i : Int) + 1 := by omega
    have q8 : (0 : Int) ≤ (i : Int) + 1 := by omega
    have HO := hid (And.intro ho h1)
    clear ho h1
    go_wp2_with fail
    go_region_held3 (fun w' => True) (trivial)
      (first | (refine step_append_fit _ rfl (.tmp 22) (.tmp 25) _ rfl 61 i0 7 Try.underlying55 hi0 hz1 g off i (i + 1) i _ rfl hhead.drew _ _ _ _ _ rfl htail.drew hu (by omega) (by omega) ?_; intro w1 ho1 hk1))
    have hcl : ∀ ty cc, (Builtin.clear_ #[55] ty #[.slice (some ⟨g, off + i * 7, none⟩) 1 cc]).run Try.prog w1 = .ok (.tuple #[]) (w1.setCells g (off + i * 7) [.string ByteArray.empty, .slice none 0 0, .int .i64 0, .bool false, .int .i64 0, .int .i64 0, .bool false]) := fun ty cc =>
      run_clear_one w1 55 61 ty (.agg #[.string ByteArray.empty, .slice none 0 0, .int .i64 0, .bool false, .int .i64 0, .int .i64 0, .bool false]) Try.underlying55 zero61 (by simp [Value.cells, Value.oneCell']) g (off + i * 7) cc
        (fun j hj => by simp [Value.cells] at hj; rw [Nat.add_assoc]; exact (ho1.room (by omega)).1) (fun j hj => by simp [Value.cells] at hj; rw [Nat.add_assoc]; exact (ho1.room (by omega)).2)
    have hp := ho1.past (o := off + i * 7) (by omega) [.string ByteArray.empty, .slice none 0 0, .int .i64 0, .bool false, .int .i64 0, .int .i64 0, .bool false]
    have HP := hid (And.intro hp hk1)
    clear hp hk1 ho1 hhead htail hu
    go_wp2_with (simp only [hcl])
    go_ret
    exact ⟨rfl, HP.out.1.1, HP.out.2.of_drew.trans HP.out.1.2 (by simp)⟩
  · have hhead := ho.head (k := i) (by omega)
    have htail := ho.rds.cut (k := i + 1) (cap := c) (by omega) (by omega)
    rw [if_neg hc] at htail
    simp only [Option.map_some, add_none, Nat.add_sub_cancel_left] at htail
    have hu : ∀ u ∈ xs.drop ((i + 1) * 7), u.oneCell' = true := fun u hu => h1 u (List.mem_of_mem_drop hu)
    have q1 : ((i : Int) + 1).toNat = i + 1 := by omega
    have q2 : IntKind.i64.wrap ((i : Int) + 1) = (i : Int) + 1 := by rw [IntKind.wrap_i64]; omega
    have q3 : (i : Int) ≤ (i : Int) + 1 + (m : Int) := by omega
    have q5 : (0 : Int) ≤ (i : Int) := by omega
    have q6 : (i : Int) ≤ (c : Int) := by omega
    have q7 : (i : Int) + 1 + (m : Int) ≤ (c : Int) := by omega
    have q8 : (0 : Int) ≤ (i : Int) + 1 := by omega
    have q4 : (i : Int) + 1 ≤ (i : Int) + 1 + (m : Int) := by omega
    have HO := hid (And.intro ho h1)
    clear ho h1
    go_wp2_with fail
    go_region_held3 (fun w' => True) (trivial)
      (first | (refine step_append_fit _ rfl (.tmp 22) (.tmp 25) _ rfl 61 i0 7 Try.underlying55 hi0 hz1 g off i c (i + m) _ rfl hhead.drew _ _ _ _ _ rfl htail.drew hu (by omega) (by omega) ?_; intro w1 ho1 hk1))
    have hcl : ∀ ty cc, (Builtin.clear_ #[55] ty #[.slice (some ⟨g, off + (i + m) * 7, none⟩) 1 cc]).run Try.prog w1 = .ok (.tuple #[]) (w1.setCells g (off + (i + m) * 7) [.string ByteArray.empty, .slice none 0 0, .int .i64 0, .bool false, .int .i64 0, .int .i64 0, .bool false]) := fun ty cc =>
      run_clear_one w1 55 61 ty (.agg #[.string ByteArray.empty, .slice none 0 0, .int .i64 0, .bool false, .int .i64 0, .int .i64 0, .bool false]) Try.underlying55 zero61 (by simp [Value.cells, Value.oneCell']) g (off + (i + m) * 7) cc
        (fun j hj => by simp [Value.cells] at hj; rw [Nat.add_assoc]; exact (ho1.room (by omega)).1) (fun j hj => by simp [Value.cells] at hj; rw [Nat.add_assoc]; exact (ho1.room (by omega)).2)
    have hp := ho1.past (o := off + (i + m) * 7) (by omega) [.string ByteArray.empty, .slice none 0 0, .int .i64 0, .bool false, .int .i64 0, .int .i64 0, .bool false]
    have r0 : i + 1 + m - (i + m) = 1 := by omega
    have r1 : (0 : Int) ≤ (i : Int) + (m : Int) := by omega
    have r2 : (i : Int) + (m : Int) ≤ (i : Int) + 1 + (m : Int) := by omega
    have r3 : ((i : Int) + (m : Int)).toNat = i + m := by omega
    have r4 : ((i : Int) + 1 + (m : Int)).toNat = i + 1 + m := by omega
    have HP := hid (And.intro hp hk1)
    clear hp hk1 ho1 hhead htail hu
    go_wp2_with (simp only [hcl])
    go_ret
    exact ⟨rfl, HP.out.1.1, HP.out.2.of_drew.trans HP.out.1.2 (by simp)⟩
end Go.Proofs.Ytdfllmiokgoekaa
