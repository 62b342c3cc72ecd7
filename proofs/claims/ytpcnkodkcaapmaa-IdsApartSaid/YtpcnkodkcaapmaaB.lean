/- The contracts of Take (the program's and the reference's) and of the reference's Free. -/
import Derived.Test.YtpcnkodkcaapmaaA
set_option linter.all false
namespace Go.Proofs.Ytpcnkodkcaapmaa
open Go.RowKit Go.Hub Go.Ids

set_option maxHeartbeats 400000 in
theorem freeRef_any (b m : Nat) (most t : Int) (S : List Int) (x : Int) (hx : (Lit.int .i64 x).wf = true) (w : World) (h : IsRef w b m most t S) :
    Calls Try.prog 13 #[.pointer (some ⟨b, 0, none⟩), .int .i64 x] w fun e w' => e = .returned (.bool (decide (x ∈ S))) ∧ IsRef w' b m most t (S.erase x) ∧ Kept [b, m] w w' := by
  have h0 := h
  obtain ⟨hb, hm, hbm⟩ := h
  have c0 := hb.cell_ (i := 2) rfl
  have hl := hm.look Try.underlying3 Try.underlying4 Try.underlying34 (zb w) hx
  obtain ⟨w1, hd, hm1, hk⟩ := hm.drop Try.underlying3 Try.underlying34 hx 0
  have F : IsRef w1 b m most t (S.erase x) := ⟨hb.kept hk (by simpa using hbm), hm1, hbm⟩
  have K : Kept [b, m] w w1 := hk.mono (by simp)
  have FK := hid (And.intro F K)
  have hc1 : w1.cell? ⟨b, 0, none⟩ = some (.int .i64 most) := F.1.cell_ (i := 0) rfl
  clear hb hm hbm hk hm1 F K
  by_cases hin : x ∈ S
  · rw [decide_eq_true hin] at *
    have h0 := hid h0
    clear hin
    go_enter Try.func13, Try.ntmps13
    go_wp2
    go_ret
    exact ⟨rfl, FK.out⟩
  · rw [decide_eq_false hin] at *
    have FK' : IsRef w b m most t (S.erase x) ∧ Kept [b, m] w w := by rw [List.erase_of_not_mem hin]; exact ⟨h0, Kept.refl _ _⟩
    have FK' := hid FK'
    clear hin h0 hd FK hc1
    go_enter Try.func13, Try.ntmps13
    go_wp2
    go_ret
    exact ⟨rfl, FK'.out⟩

/-- What one Take does: the number and whether, the number taken last, what is in use. -/
def takeN (most : Int) (S : List Int) (t : Int) : Int := if most ≤ S.length then 0 else nxt S t
def takeT (most : Int) (S : List Int) (t : Int) : Int := if most ≤ S.length then t else nxt S t
def takeS (most : Int) (S : List Int) (t : Int) : List Int := if most ≤ S.length then S else nxt S t :: S

theorem set_ids {w : World} {b m : Nat} {most t u : Int} {S : List Int} (h : IsIds w b m most t S) : IsIds (w.setCell ⟨b, 2, none⟩ (.int .i64 u)) b m most u S :=
  ⟨h.1.set_ 2 _, h.2.1.far (by simpa using Ne.symm h.2.2) _, h.2.2⟩

set_option maxHeartbeats 1000000 in
theorem take_any (b m : Nat) (most t : Int) (S : List Int) (w : World) (h : IsIds w b m most t S) (ht : 0 ≤ t ∧ t ≤ 65535) (hmost : most ≤ 65535) :
    Calls Try.prog 10 #[.pointer (some ⟨b, 0, none⟩)] w fun e w' => e = .returned (.tuple #[.int .i64 (takeN most S t), .bool (decide (S.length < most))]) ∧
      IsIds w' b m most (takeT most S t) (takeS most S t) ∧ Kept [b, m] w w' := by
  have c0 := h.1.cell_ (i := 0) rfl
  have c1 := h.1.cell_ (i := 1) rfl
  have c2 := h.1.cell_ (i := 2) rfl
  have hl : ∀ n, (Builtin.len_ #[34] 3 #[.map (some m)]).run Try.prog (w.drewN n) = .ok (.int .i64 S.length) (w.drewN n) := fun n => (h.2.1.drewN n).len Try.underlying34 3
  by_cases hfull : most ≤ S.length
  · have E : ∀ n, IsIds (w.drewN n) b m most (takeT most S t) (takeS most S t) ∧ Kept [b, m] w (w.drewN n) := fun n => by
      unfold takeT takeS; rw [if_pos hfull, if_pos hfull]; exact ⟨h, (Kept.refl _ _).drewN n⟩
    have E1 : takeN most S t = 0 := by unfold takeN; rw [if_pos hfull]
    have E2 : decide ((S.length : Int) < most) = false := by simp; omega
    have EE := hid (And.intro E1 E)
    rw [E2]
    clear h E E1
    go_enter Try.func10, Try.ntmps10
    go_wp2
    go_quiet (fail)
    go_wp2
    go_ret2
    exact ⟨by rw [EE.out.1]; rfl, EE.out.2 _⟩
  · have hmax : S.length < 65535 := by omega
    have E0 : takeN most S t = nxt S t ∧ takeT most S t = nxt S t ∧ takeS most S t = nxt S t :: S := by unfold takeN takeT takeS; simp only [if_neg hfull, and_self]
    have E2 : decide ((S.length : Int) < most) = true := by simp; omega
    have start : ∀ n, IsIds ((w.drewN n).setCell ⟨b, 2, none⟩ (.int .i64 (t % 65535 + 1))) b m most (stp t) S ∧ Kept [b, m] w ((w.drewN n).setCell ⟨b, 2, none⟩ (.int .i64 (t % 65535 + 1))) := fun n =>
      ⟨set_ids (show IsIds (w.drewN n) b m most t S from h), ((Kept.refl _ _).drewN n).setCell (by simp) _⟩
    have EE := hid (And.intro E0 start)
    have c3 : w.frozen? ⟨b, 2, none⟩ = false := h.1.frozen 2
    rw [E2]
    clear h E0 start E2
    go_enter Try.func10, Try.ntmps10
    go_wp2
    go_quiet (fail)
    go_wp2
    go_loopg [] 65535 (fun k wr => ∃ u, 1 ≤ u ∧ u ≤ 65535 ∧ IsIds wr b m most u S ∧ Kept [b, m] w wr ∧ nxtG k S u = some (nxt S t))
    case atStart => exact ⟨_, (stp_bd t ht.1).1, (stp_bd t ht.1).2, (EE.out.2 _).1, (EE.out.2 _).2, nxtG_some S t ht.1 hmax⟩
    case round =>
      obtain ⟨u, hu1, hu2, h, hk, hx⟩ := hrel
      clear c0 c1 c2 c3 hl
      have c0 := h.1.cell_ (i := 0) rfl
      have c2 := h.1.cell_ (i := 2) rfl
      have c3 : wr.frozen? ⟨b, 2, none⟩ = false := h.1.frozen 2
      have hux : (Lit.int .i64 u).wf = true := wfi (by omega)
      have hl : ∀ n, (Instr.lookup 34 (.map (some m)) (.int .i64 u) false).run Try.prog (wr.drewN n) = .ok (.bool (decide (u ∈ S))) (wr.drewN n) := fun n => (h.2.1.drewN n).look Try.underlying3 Try.underlying4 Try.underlying34 (zb _) hux
      match gk, hx with
      | 0, hx => simp [nxtG] at hx
      | gk + 1, hx =>
      by_cases hin : u ∈ S
      · rw [nxtG, if_pos hin] at hx
        rw [decide_eq_true hin] at hl
        have nxt1 : ∀ n, IsIds ((wr.drewN n).setCell ⟨b, 2, none⟩ (.int .i64 (u % 65535 + 1))) b m most (stp u) S ∧ Kept [b, m] w ((wr.drewN n).setCell ⟨b, 2, none⟩ (.int .i64 (u % 65535 + 1))) := fun n =>
          ⟨set_ids (show IsIds (wr.drewN n) b m most u S from h), (hk.drewN n).setCell (by simp) _⟩
        have H := hid (And.intro hx nxt1)
        clear h hk hx nxt1 hin
        go_wp2
        go_quiet (fail)
        go_wp2
        go_roundg gk
        case measure => omega
        case rel => exact ⟨_, (stp_bd u (by omega)).1, (stp_bd u (by omega)).2, (H.out.2 _).1, (H.out.2 _).2, H.out.1⟩
      · rw [nxtG, if_neg hin] at hx
        rw [decide_eq_false hin] at hl
        have hu : u = nxt S t := by simpa using hx
        obtain ⟨f, hst, hf⟩ := h.2.1.storeN Try.underlying3 Try.underlying4 Try.underlying34 hux (by unfold maxLen; omega) hin
        have F : ∀ n, IsIds (f n) b m most u (u :: S) ∧ Kept [b, m] w (f n) := fun n =>
          ⟨⟨h.1.kept (hf n).2 (by simpa using h.2.2), (hf n).1, h.2.2⟩, hk.trans (hf n).2 (by simp)⟩
        have d2 : ∀ n, (f n).cell? ⟨b, 2, none⟩ = some (.int .i64 u) := fun n => (F n).1.1.cell_ (i := 2) rfl
        have H := hid (And.intro hu F)
        clear h hk hx hin hu F hf
        go_wp2
        go_quiet (fail)
        go_wp2
        go_region
        all_goals go_wp2
        all_goals go_ret2
        all_goals (have HH := H.out; have EE := EE.out.1; rw [EE.1, EE.2.1, EE.2.2, ← HH.1]; exact ⟨rfl, HH.2 _⟩)
end Go.Proofs.Ytpcnkodkcaapmaa
