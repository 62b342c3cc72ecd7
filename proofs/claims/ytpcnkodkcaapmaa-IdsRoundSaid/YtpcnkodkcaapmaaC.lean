/- The contract of the reference's Take. -/
import Derived.Test.YtpcnkodkcaapmaaB
set_option linter.all false
namespace Go.Proofs.Ytpcnkodkcaapmaa
open Go.RowKit Go.Hub Go.Ids

theorem set_ref {w : World} {b m : Nat} {most t u : Int} {S : List Int} (h : IsRef w b m most t S) : IsRef (w.setCell ⟨b, 1, none⟩ (.int .i64 u)) b m most u S :=
  ⟨h.1.set_ 1 _, h.2.1.far (by simpa using Ne.symm h.2.2) _, h.2.2⟩

set_option maxHeartbeats 1000000 in
theorem takeRef_any (b m : Nat) (most t : Int) (S : List Int) (w : World) (h : IsRef w b m most t S) (ht : 0 ≤ t ∧ t ≤ 65535) (hmost : most ≤ 65535) :
    Calls Try.prog 11 #[.pointer (some ⟨b, 0, none⟩)] w fun e w' => e = .returned (.tuple #[.int .i64 (takeN most S t), .bool (decide (S.length < most))]) ∧
      IsRef w' b m most (takeT most S t) (takeS most S t) ∧ Kept [b, m] w w' := by
  have c0 := h.1.cell_ (i := 0) rfl
  have c1 := h.1.cell_ (i := 1) rfl
  have c2 := h.1.cell_ (i := 2) rfl
  have hl : ∀ n, (Builtin.len_ #[34] 3 #[.map (some m)]).run Try.prog (w.drewN n) = .ok (.int .i64 S.length) (w.drewN n) := fun n => (h.2.1.drewN n).len Try.underlying34 3
  by_cases hfull : most ≤ S.length
  · have E : ∀ n, IsRef (w.drewN n) b m most (takeT most S t) (takeS most S t) ∧ Kept [b, m] w (w.drewN n) := fun n => by
      unfold takeT takeS; rw [if_pos hfull, if_pos hfull]; exact ⟨h, (Kept.refl _ _).drewN n⟩
    have E1 : takeN most S t = 0 := by unfold takeN; rw [if_pos hfull]
    have E2 : decide ((S.length : Int) < most) = false := by simp; omega
    have EE := hid (And.intro E1 E)
    rw [E2]
    clear h E E1
    go_enter Try.func11, Try.ntmps11
    go_wp2
    go_quiet (fail)
    go_wp2
    go_ret2
    exact ⟨by rw [EE.out.1]; rfl, EE.out.2 _⟩
  · have hmax : S.length < 65535 := by omega
    have E0 : takeN most S t = nxt S t ∧ takeT most S t = nxt S t ∧ takeS most S t = nxt S t :: S := by unfold takeN takeT takeS; simp only [if_neg hfull, and_self]
    have E2 : decide ((S.length : Int) < most) = true := by simp; omega
    have EE := hid (And.intro E0 h)
    rw [E2]
    clear h E0 E2
    go_enter Try.func11, Try.ntmps11
    go_wp2
    go_quiet (fail)
    go_wp2
    go_loopg [] 65535 (fun k wr => ∃ u, 0 ≤ u ∧ u ≤ 65535 ∧ IsRef wr b m most u S ∧ Kept [b, m] w wr ∧ nxtG k S (stp u) = some (nxt S t))
    case atStart => exact ⟨t, ht.1, ht.2, EE.out.2, (Kept.refl _ _).drewN _, nxtG_some S t ht.1 hmax⟩
    case round =>
      obtain ⟨u, hu1, hu2, h, hk, hx⟩ := hrel
      clear c0 c1 c2 hl
      have c1 := h.1.cell_ (i := 1) rfl
      have c2 := h.1.cell_ (i := 2) rfl
      have c3 : wr.frozen? ⟨b, 1, none⟩ = false := h.1.frozen 1
      have hs := stp_bd u hu1
      have hux : (Lit.int .i64 (stp u)).wf = true := wfi (by omega)
      have hl : ∀ n, (Instr.lookup 34 (.map (some m)) (.int .i64 (u % 65535 + 1)) false).run Try.prog ((wr.setCell ⟨b, 1, none⟩ (.int .i64 (u % 65535 + 1))).drewN n) = .ok (.bool (decide (stp u ∈ S))) ((wr.setCell ⟨b, 1, none⟩ (.int .i64 (u % 65535 + 1))).drewN n) :=
        fun n => ((set_ref (u := stp u) h).2.1.drewN n).look Try.underlying3 Try.underlying4 Try.underlying34 (zb _) hux
      match gk, hx with
      | 0, hx => simp [nxtG] at hx
      | gk + 1, hx =>
      by_cases hin : stp u ∈ S
      · rw [nxtG, if_pos hin] at hx
        rw [decide_eq_true hin] at hl
        have nxt1 : ∀ n, IsRef (((wr.setCell ⟨b, 1, none⟩ (.int .i64 (u % 65535 + 1)))).drewN n) b m most (stp u) S ∧ Kept [b, m] w ((wr.setCell ⟨b, 1, none⟩ (.int .i64 (u % 65535 + 1))).drewN n) := fun n =>
          ⟨set_ref h, (hk.setCell (by simp) _).drewN n⟩
        have H := hid (And.intro hx nxt1)
        clear h hk hx nxt1 hin hs hux
        go_wp2
        go_quiet (fail)
        go_wp2
        go_roundg gk
        case measure => omega
        case rel => exact ⟨_, by have := stp_bd u hu1; omega, (stp_bd u (by omega)).2, (H.out.2 _).1, (H.out.2 _).2, H.out.1⟩
      · rw [nxtG, if_neg hin] at hx
        rw [decide_eq_false hin] at hl
        have hu : stp u = nxt S t := by simpa using hx
        obtain ⟨f, hst, hf⟩ := (set_ref (u := stp u) h).2.1.storeN Try.underlying3 Try.underlying4 Try.underlying34 hux (by unfold maxLen; omega) hin
        have F : ∀ n, IsRef (f n) b m most (stp u) (stp u :: S) ∧ Kept [b, m] w (f n) := fun n =>
          ⟨⟨(set_ref (u := stp u) h).1.kept (hf n).2 (by simpa using h.2.2), (hf n).1, h.2.2⟩, (hk.setCell (by simp) _).trans (hf n).2 (by simp)⟩
        have d2 : ∀ n, (f n).cell? ⟨b, 1, none⟩ = some (.int .i64 (stp u)) := fun n => (F n).1.1.cell_ (i := 1) rfl
        have hst' : ∀ n, (Instr.mapUpdate 34 (.map (some m)) (.int .i64 (u % 65535 + 1)) (.bool true)).run Try.prog ((wr.setCell ⟨b, 1, none⟩ (.int .i64 (u % 65535 + 1))).drewN n) = .ok () (f n) := hst
        have H := hid (And.intro hu F)
        clear h hk hx hin hu F hf hst
        go_wp2
        go_quiet (fail)
        go_wp2
        go_region
        all_goals go_wp2
        all_goals go_ret2
        all_goals (have HH := H.out; have EE := EE.out.1; rw [EE.1, EE.2.1, EE.2.2, ← HH.1]; exact ⟨rfl, HH.2 _⟩)
end Go.Proofs.Ytpcnkodkcaapmaa
