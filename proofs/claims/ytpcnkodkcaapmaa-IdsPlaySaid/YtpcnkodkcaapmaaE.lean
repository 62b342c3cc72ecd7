/- IdsPlay: the walk. -/
import Derived.Test.YtpcnkodkcaapmaaD
set_option linter.all false
namespace Go.Proofs.Ytpcnkodkcaapmaa
open Go.RowKit Go.Hub Go.Ids

theorem takeT_bd (most t : Int) (S : List Int) (ht : 0 ≤ t ∧ t ≤ 65535) (hm : most ≤ 65535) : 0 ≤ takeT most S t ∧ takeT most S t ≤ 65535 := by
  unfold takeT
  split
  · exact ht
  · have := nxt_spec S t ht.1 (by omega); omega

theorem IsIds.drewN {w : World} {b m : Nat} {most t : Int} {S : List Int} (h : IsIds w b m most t S) (n : Nat) : IsIds (w.drewN n) b m most t S := h
theorem IsRef.drewN {w : World} {b m : Nat} {most t : Int} {S : List Int} (h : IsRef w b m most t S) (n : Nat) : IsRef (w.drewN n) b m most t S := h

set_option maxRecDepth 100000 in
set_option maxHeartbeats 4000000 in
theorem play_any (most : Int) (a : Option Addr) (len cap : Nat) (zs : List Int) (w : World) (hmost : (Lit.int .i64 most).wf = true) (hz : Ints .i64 w w.heap.size a len zs) :
    Calls Try.prog 3 #[.int .i64 most, .slice a len cap] w fun e w' => e = .returned (.bool true) ∧ Below w.heap.size w w' := by
  have hlen := hz.2.1
  unfold maxLen at hlen
  go_enter Try.func3, Try.ntmps3
  go_wp2_with fail
  refine (known_any w).mono ?_
  rintro e w1 ⟨rfl, q1⟩
  have B1 : Below w.heap.size w w1 := q1.below (by simp) (Nat.le_refl _)
  by_cases hbig : 200 < len
  · have hb : (200 : Int) < (len : Int) := by omega
    go_wp2
    go_ret
    exact ⟨rfl, B1⟩
  · have hb : ¬ (200 : Int) < (len : Int) := by omega
    go_wp2_with fail
    refine (place_any most 9 (by omega) (by omega) _).mono ?_
    rintro e w1 ⟨rfl, rfl⟩
    go_wp2_with fail
    obtain ⟨W, hW⟩ : ∃ W, W = w1.alloc (Obj.cells #[Value.int IntKind.i64 most, Value.int IntKind.i64 (most % 9)] 3) := ⟨_, rfl⟩
    rw [← hW]
    obtain ⟨n1, hn1⟩ : ∃ n1, n1 = w1.heap.size := ⟨_, rfl⟩
    rw [← hn1]
    have BW : Below w.heap.size w W := by rw [hW]; exact B1.alloc (by have := B1.size; omega) _
    have hsz : n1 + 1 = W.heap.size := by rw [hW, World.size_alloc, hn1]
    have hcell : ∀ j, j < 2 → ∃ K, (Lit.int .i64 K).wf = true ∧ W.cell? ⟨n1, j, none⟩ = some (.int .i64 K) := by
      intro j hj
      have hb := Blk.new w1 3 #[Value.int IntKind.i64 most, Value.int IntKind.i64 (most % 9)]
      rw [← hW, ← hn1] at hb
      match j, hj with
      | 0, _ => exact ⟨most, hmost, hb.cell_ rfl⟩
      | 1, _ => exact ⟨most % 9, wfi (by omega), hb.cell_ rfl⟩
    have hw0 : w.heap.size ≤ n1 := by rw [hn1]; exact B1.size
    have H := hid hcell
    clear hcell hW hn1
    go_loopg [25] 2 (fun k j wr => ∃ i : Nat, i + k = 2 ∧ j = .int .i64 i ∧ Below W.heap.size W wr)
    case atStart => exact ⟨0, rfl, rfl, Below.refl _ _⟩
    case round =>
      obtain ⟨i, hik, rfl, hbr⟩ := hrel
      obtain ⟨wo, rfl⟩ : ∃ wo : World, wo = wr := ⟨_, rfl⟩
      obtain ⟨ko, rfl⟩ : ∃ ko : Nat, ko = gk := ⟨_, rfl⟩
      by_cases hi : i < 2
      · obtain ⟨K, hK, hcK⟩ := H.out i hi
        rw [← hbr.cell (p := ⟨n1, i, none⟩) (by simp; omega)] at hcK
        have hi2 : (i : Int) < 2 := by omega
        have HIK := hid hik
        clear hik
        go_wp2_with fail
        refine (newIds K _).mono ?_
        rintro e w3 ⟨rfl, h3, q3⟩
        go_wp2_with fail
        refine (newRef K _).mono ?_
        rintro e w4 ⟨rfl, g4, q4⟩
        have h4 := h3.kept q4 (by simp) (by simp)
        have hsz3 := h3.1.lt
        have hsz4 := g4.1.lt
        have hbr4 : Below W.heap.size W w4 := (hbr.trans (q3.below (by simp) hbr.size)).trans (q4.below (by simp) (by have := hbr.size; omega))
        have hsz0 := hbr.size
        obtain ⟨b, hb⟩ : ∃ b, b = wo.heap.size + 1 := ⟨_, rfl⟩
        obtain ⟨m, hm⟩ : ∃ b, b = wo.heap.size := ⟨_, rfl⟩
        obtain ⟨b2, hb2⟩ : ∃ b, b = w3.heap.size + 1 := ⟨_, rfl⟩
        obtain ⟨m2, hm2⟩ : ∃ b, b = w3.heap.size := ⟨_, rfl⟩
        rw [← hb, ← hm] at h4
        rw [← hb2, ← hm2] at g4
        rw [← hb, ← hb2]
        have hd : b ≠ b2 ∧ b ≠ m2 ∧ m ≠ b2 ∧ m ≠ m2 ∧ W.heap.size ≤ b ∧ W.heap.size ≤ m ∧ W.heap.size ≤ b2 ∧ W.heap.size ≤ m2 := by omega
        have hcl := clamp_bd K
        clear hb hm hb2 hm2 h3 q3 q4 hsz3 hsz4 hsz0 hcK hbr
        go_wp2_with fail
        go_loopg [9] len (fun k v wr => ∃ (j : Nat) (t : Int) (S : List Int), j + k = len ∧ v = .int .i64 j ∧ IsIds wr b m (clamp K) t S ∧ IsRef wr b2 m2 (clamp K) t S ∧ (0 ≤ t ∧ t ≤ 65535) ∧ Below W.heap.size W wr)
        case atStart => exact ⟨0, 0, [], by omega, rfl, h4, g4, by omega, hbr4⟩
        case round =>
          obtain ⟨j, t, S, hjk, rfl, h5, g5, ht, hb5⟩ := hrel
          clear h4 g4 hbr4
          by_cases hj : j < len
          · obtain ⟨ab, off, ha, hab, hcl2⟩ := (hz.below BW).2.2.2 (by omega)
            obtain ⟨z, hz1, hz2, _⟩ := hz.at_ hj
            have hcz : wr.cell? ⟨ab, off + j, none⟩ = some (.int .i64 z) := by
              rw [← hz1, ← hcl2 j hj]
              exact hb5.cell (by simp; omega)
            subst ha
            have HJ := hid hjk
            clear hcl2 hz1 hjk
            have hj2 : (j : Int) < (len : Int) := by omega
            go_wp2_with fail
            · refine (take_any _ _ _ _ _ _ h5 ht hcl.2).mono ?_
              rintro e w7 ⟨rfl, h7, q7⟩
              have g7 := g5.kept q7 (by simp; omega) (by simp; omega)
              go_wp2_with fail
              refine (takeRef_any _ _ _ _ _ _ g7 ht hcl.2).mono ?_
              rintro e w8 ⟨rfl, g8, q8⟩
              have h8 := h7.kept q8 (by simp; omega) (by simp; omega)
              have hb8 := hid ((hb5.trans (q7.below (by simp; omega) hb5.size)).trans (q8.below (by simp; omega) (by have := hb5.size; have := q7.size; omega)))
              have ht8 := takeT_bd (clamp K) t S ht hcl.2
              have hwt : (Lit.int .i64 (takeT (clamp K) S t)).wf = true := wfi (by omega)
              clear h5 g5 h7 g7 q7 q8 hb5
              have c1 := g8.1.cell_ (i := 1) rfl
              have c2 := g8.1.cell_ (i := 2) rfl
              have hlen2 : ∀ n, (Builtin.len_ #[34] 3 #[.map (some m2)]).run Try.prog (w8.drewN n) = .ok (.int .i64 _) (w8.drewN n) := fun n => (g8.2.1.drewN n).len Try.underlying34 3
              have hlk2 : ∀ n, (Instr.lookup 34 (.map (some m2)) (.int .i64 _) false).run Try.prog (w8.drewN n) = .ok (.bool _) (w8.drewN n) := fun n => (g8.2.1.drewN n).look Try.underlying3 Try.underlying4 Try.underlying34 (zb _) hwt
              go_wp2
              go_quiet ((first
                | (go_at_call 15; exact Calls.quiet_of_same ((len_any _ _ _ _ _ _ (h8.drewN _)).mono fun _ _ hh => ⟨hh.1, hh.2.symm⟩))
                | (go_at_call 14; exact Calls.quiet_of_same ((has_any _ _ _ _ _ _ hwt _ (h8.drewN _)).mono fun _ _ hh => ⟨hh.1, hh.2.symm⟩))))
              go_wp2
              go_roundg (gk - 1)
              case measure => have := HJ.out; omega
              case rel => exact ⟨j + 1, _, _, by have := HJ.out; omega, by go_num, h8.drewN _, g8.drewN _, ht8, belowDrewN (hb8.out) _⟩
            · refine (place_any _ 12 (by omega) (by omega) _).mono ?_
              rintro e w6 ⟨rfl, rfl⟩
              obtain ⟨z2, hz3⟩ : ∃ z2, z2 = z / 2 % 12 := ⟨_, rfl⟩
              have hwz : (Lit.int .i64 z2).wf = true := wfi (by omega)
              rw [← hz3]
              clear hz3
              go_wp2_with fail
              refine (free_any _ _ _ _ _ _ hwz _ h5).mono ?_
              rintro e w7 ⟨rfl, h7, q7⟩
              have g7 := g5.kept q7 (by simp; omega) (by simp; omega)
              go_wp2_with fail
              refine (freeRef_any _ _ _ _ _ _ hwz _ g7).mono ?_
              rintro e w8 ⟨rfl, g8, q8⟩
              have h8 := h7.kept q8 (by simp; omega) (by simp; omega)
              have hb8 := hid ((hb5.trans (q7.below (by simp; omega) hb5.size)).trans (q8.below (by simp; omega) (by have := hb5.size; have := q7.size; omega)))
              have ht8 := ht
              have hwt : (Lit.int .i64 t).wf = true := wfi (by omega)
              have hno : decide (z2 ∈ S.erase (z2)) = false := by simp [h5.2.1.nodup.mem_erase_iff]
              clear h5 g5 h7 g7 q7 q8 hb5
              go_wp2_with fail
              refine (has_any _ _ _ _ _ _ hwz _ h8).mono ?_
              rw [hno]
              rintro e w9 ⟨rfl, rfl⟩
              have c1 := g8.1.cell_ (i := 1) rfl
              have c2 := g8.1.cell_ (i := 2) rfl
              have hlen2 : ∀ n, (Builtin.len_ #[34] 3 #[.map (some m2)]).run Try.prog (w8.drewN n) = .ok (.int .i64 _) (w8.drewN n) := fun n => (g8.2.1.drewN n).len Try.underlying34 3
              have hlk2 : ∀ n, (Instr.lookup 34 (.map (some m2)) (.int .i64 _) false).run Try.prog (w8.drewN n) = .ok (.bool _) (w8.drewN n) := fun n => (g8.2.1.drewN n).look Try.underlying3 Try.underlying4 Try.underlying34 (zb _) hwt
              go_wp2
              go_quiet ((first
                | (go_at_call 15; exact Calls.quiet_of_same ((len_any _ _ _ _ _ _ (h8.drewN _)).mono fun _ _ hh => ⟨hh.1, hh.2.symm⟩))
                | (go_at_call 14; exact Calls.quiet_of_same ((has_any _ _ _ _ _ _ hwt _ (h8.drewN _)).mono fun _ _ hh => ⟨hh.1, hh.2.symm⟩))))
              go_wp2
              go_roundg (gk - 1)
              case measure => have := HJ.out; omega
              case rel => exact ⟨j + 1, _, _, by have := HJ.out; omega, by go_num, h8.drewN _, g8.drewN _, ht8, belowDrewN (hb8.out) _⟩
            · refine (free_any _ _ _ _ _ _ hz2 _ h5).mono ?_
              rintro e w7 ⟨rfl, h7, q7⟩
              have g7 := g5.kept q7 (by simp; omega) (by simp; omega)
              go_wp2_with fail
              refine (freeRef_any _ _ _ _ _ _ hz2 _ g7).mono ?_
              rintro e w8 ⟨rfl, g8, q8⟩
              have h8 := h7.kept q8 (by simp; omega) (by simp; omega)
              have hb8 := hid ((hb5.trans (q7.below (by simp; omega) hb5.size)).trans (q8.below (by simp; omega) (by have := hb5.size; have := q7.size; omega)))
              have ht8 := ht
              have hwt : (Lit.int .i64 t).wf = true := wfi (by omega)
              have hno : decide (z ∈ S.erase (z)) = false := by simp [h5.2.1.nodup.mem_erase_iff]
              clear h5 g5 h7 g7 q7 q8 hb5
              go_wp2_with fail
              refine (has_any _ _ _ _ _ _ hz2 _ h8).mono ?_
              rw [hno]
              rintro e w9 ⟨rfl, rfl⟩
              have c1 := g8.1.cell_ (i := 1) rfl
              have c2 := g8.1.cell_ (i := 2) rfl
              have hlen2 : ∀ n, (Builtin.len_ #[34] 3 #[.map (some m2)]).run Try.prog (w8.drewN n) = .ok (.int .i64 _) (w8.drewN n) := fun n => (g8.2.1.drewN n).len Try.underlying34 3
              have hlk2 : ∀ n, (Instr.lookup 34 (.map (some m2)) (.int .i64 _) false).run Try.prog (w8.drewN n) = .ok (.bool _) (w8.drewN n) := fun n => (g8.2.1.drewN n).look Try.underlying3 Try.underlying4 Try.underlying34 (zb _) hwt
              go_wp2
              go_quiet ((first
                | (go_at_call 15; exact Calls.quiet_of_same ((len_any _ _ _ _ _ _ (h8.drewN _)).mono fun _ _ hh => ⟨hh.1, hh.2.symm⟩))
                | (go_at_call 14; exact Calls.quiet_of_same ((has_any _ _ _ _ _ _ hwt _ (h8.drewN _)).mono fun _ _ hh => ⟨hh.1, hh.2.symm⟩))))
              go_wp2
              go_roundg (gk - 1)
              case measure => have := HJ.out; omega
              case rel => exact ⟨j + 1, _, _, by have := HJ.out; omega, by go_num, h8.drewN _, g8.drewN _, ht8, belowDrewN (hb8.out) _⟩
          · have hj0 : j = len := by omega
            subst hj0
            have hj2 : ¬ (j : Int) < (j : Int) := by omega
            have hb6 := hid hb5
            clear h5 g5 hb5
            go_wp2
            go_roundg (ko - 1)
            case measure => have := HIK.out; omega
            case rel => exact ⟨i + 1, by have := HIK.out; omega, by go_num, hb6.out⟩
      · have hi2 : i = 2 := by omega
        subst hi2
        have hh := hid (BW.trans (hbr.mono (by omega)))
        clear hbr
        go_wp2
        go_ret
        exact ⟨rfl, hh.out⟩
end Go.Proofs.Ytpcnkodkcaapmaa
