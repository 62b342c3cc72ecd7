/- The contracts of All and Flights. -/
import Derived.Test.YtmffkpcimddbpaaF
set_option linter.all false
namespace Go.Proofs.Ytmffkpcimddbpaa
open Go.RowKit Go.Hub

def Gath (B : Nat) (w wr : World) (v : Value) (ms : List F) : Prop :=
  ∃ ys, Own wr 33 3 v ms.length ys ∧ Seq 3 (relF [5] B wr) ys ms ∧ Below w.heap.size w wr ∧ ∀ k, v.ownBlock = some k → w.heap.size ≤ k

set_option maxHeartbeats 1000000 in
theorem all_any (B b : Nat) (v : Value) (mask : Int) (ms : List F) (w : World) (h : IsN B w b v mask ms) (hB : B ≤ w.heap.size) (hlen : ms.length ≤ 65536) (hp : ∀ m ∈ ms, m.b.length ≤ 1000000) :
    Calls Try.prog 15 #[.pointer (some ⟨b, 0, none⟩)] w fun e w' => ∃ A c, e = .returned (.slice A ms.length c) ∧ Gath B w w' (.slice A ms.length c) ms := by
  obtain ⟨hb, hb1, hb2, xs, ho, hs⟩ := h
  obtain ⟨A0, c0, rfl, hc1, hc2⟩ := ho.form
  obtain ⟨i0, hi0, hz0, hz1, hz2⟩ := info_parts info33
  have e0 := hb.cell_ (i := 0) rfl
  have hrd := ho.rds
  have HH := hid (And.intro hp (And.intro hrd hs))
  clear hb ho hs hrd hp hb1 hb2
  go_enter Try.func15, Try.ntmps15
  go_wp2
  go_loopg [3, 11] ms.length (fun g v iv wr => ∃ i : Nat, i + g = ms.length ∧ iv = .int .i64 i ∧ Gath B w wr v (ms.take i))
  case atStart => exact ⟨0, by omega, rfl, [], Own.nil _ _ _, Seq.nil _ _, Below.refl _ _, by simp [Value.ownBlock]⟩
  case round =>
    obtain ⟨i, hi, rfl, ys, hown, hseq, hb, hblk⟩ := hrel
    obtain ⟨Ao, co, rfl, ho1, ho2⟩ := hown.form
    have htl : (ms.take i).length = i := by simp; omega
    rw [htl] at hown ho1 hblk
    by_cases hlt : i < ms.length
    · obtain ⟨m, hm⟩ : ∃ m, ms[i]? = some m := ⟨ms[i], by simp [hlt]⟩
      have S : Same [5] B w wr := .of_below hb
      obtain ⟨g, off, A1, c1, rfl, hg, x0, x1, x2, hb1⟩ := flight_cells rfl (HH.out.2.1.below hb) (HH.out.2.2.imp fun cs m h => h.same S) hm
      have hi2 : (i : Int) < (ms.length : Int) := by omega
      have hml := HH.out.1 m (List.mem_of_getElem? hm)
      have htk : ms.take (i + 1) = ms.take i ++ [m] := by
        rw [List.take_succ, hm]; rfl
      have hsz := hb.size
      rw [htl]
      have HI := hid (And.intro (And.intro hi htk) (And.intro (And.intro hown hseq) (And.intro hb hblk)))
      have HB := hid hb1
      clear hi hb S hb1 hown hseq hblk htk hm
      have h63 : i + 1 ≤ maxLen := by unfold maxLen; omega
      have hbytes : (i + 1) * 40 ≤ 140737488355328 := by omega
      go_wp2_with fail
      refine (copied_any B A1 c1 m _ (HB.out.same (.of_below ((Below.refl _ _).alloc (Nat.le_refl _) _))) hml (by simp; omega)).mono ?_
      rintro e w1 ⟨A2, c2, rfl, hm1, hbel⟩
      have k1 : Kept [] wr w1 := ((Kept.refl [] wr).alloc _).trans (Kept.of_below hbel []) (by simp)
      have o1 := (HI.out.2.1.1.kept k1 (by simp)).alloc (.cells #[Value.int .i64 m.f, Value.int .i64 m.t, Value.slice A2 m.b.length c2] 33)
      have r1 := Rds.boxed w1 #[Value.int .i64 m.f, Value.int .i64 m.t, Value.slice A2 m.b.length c2] 33 3 rfl
      have H1 := hid (And.intro k1 hm1)
      clear x0 x1 x2 hbel k1 hm1
      go_wp2_with (first
        | (at_builtin
           refine wpList_append_own' _ rfl (.tmp 15) (.tmp 18) _ rfl 33 i0 _ 3 40 Try.underlying26 hi0 hz0 hz1 hz2 rfl (by omega) (.slice Ao i co) i ys rfl o1 _ _ _ _ _ rfl r1 (by simp [Value.oneCell']) h63 hbytes ?_
           intro v2 w2 o2 k2 at2
           obtain ⟨A3, c3, hv2, hc4, hc5⟩ := o2.form
           subst hv2))
      have F : Gath B w w2 (.slice A3 (i + 1) c3) (ms.take (i + 1)) := by
        obtain ⟨⟨hi, htk⟩, ⟨hown, hseq⟩, hb, hblk⟩ := HI.out
        have k1a : Kept [] wr (w1.alloc (.cells #[Value.int .i64 m.f, Value.int .i64 m.t, Value.slice A2 m.b.length c2] 33)) := H1.out.1.alloc _
        have s1 : Same [5] B wr (w1.alloc (.cells #[Value.int .i64 m.f, Value.int .i64 m.t, Value.slice A2 m.b.length c2] 33)) := .of_kept k1a (by simp)
        have s2 : Same [5] B (w1.alloc (.cells #[Value.int .i64 m.f, Value.int .i64 m.t, Value.slice A2 m.b.length c2] 33)) w2 := .of_kept k2 (fun x hx hlt => by
          have hx' : (Value.slice Ao i co).ownBlock = some x := by simpa using hx
          obtain ⟨_, cs, hcs⟩ := o1.blk x hx'
          exact ⟨by have := hblk x hx'; omega, not_typ_of hcs (by simp)⟩)
        have bb : Below w.heap.size w w2 := (hb.trans (k1a.below (by simp) hb.size)).trans (k2.below (fun x hx => hblk x (by simpa using hx)) (by have := k1a.size; omega))
        rw [htk]
        refine ⟨_, ?_, (hseq.imp fun cs m h => h.same (s1.trans s2)).append (Seq.one rfl ⟨A2, c2, rfl, ((H1.out.2.same (.of_below ((Below.refl _ _).alloc (Nat.le_refl _) _))).same s2)⟩), bb, fun k hk => ?_⟩
        · have : (ms.take i ++ [m]).length = i + 1 := by simp; omega
          rw [this]; exact o2
        · rcases at2 k hk with h | h
          · exact hblk k h
          · have := k1a.size; have := hb.size; omega
      have HF := hid F
      clear F o2 k2 at2
      go_wp2
      go_roundg (gk - 1)
      case measure => have := HI.out.1.1; omega
      case rel => exact ⟨i + 1, by have := HI.out.1.1; omega, by go_num, HF.out⟩
    · have hi2 : ¬ (i : Int) < (ms.length : Int) := by omega
      obtain rfl : i = ms.length := by omega
      rw [List.take_length] at hseq
      have HE := hid (And.intro hown (And.intro hseq (And.intro hb hblk)))
      rw [htl]
      clear hi hb hown hseq hblk
      go_wp2
      go_ret
      exact ⟨Ao, co, rfl, ys, HE.out.1, HE.out.2.1, HE.out.2.2.1, HE.out.2.2.2⟩

set_option maxRecDepth 100000 in
set_option maxHeartbeats 1000000 in
theorem flights_any (B n n' c c' : Nat) (A A' : Option Addr) (xs ys : List Value) (ms : List F) (w : World) (hn : n = ms.length) (hn' : n' = ms.length) (hlen : ms.length ≤ 1000000) (ho : Rds w w.heap.size 3 A n xs) (hs : Seq 3 (relF [5] B w) xs ms)
    (ho' : Rds w w.heap.size 3 A' n' ys) (hs' : Seq 3 (relF [5] B w) ys ms) :
    Calls Try.prog 12 #[.slice A n c, .slice A' n' c'] w fun e w' => e = .returned (.bool true) ∧ ∃ k, w' = w.drewN k := by
  subst hn hn'
  go_enter Try.func12, Try.ntmps12
  go_wp2
  go_loopg [5] ms.length (fun g v wr => ∃ i : Nat, i + g = ms.length ∧ v = .int .i64 i ∧ ∃ k, wr = w.drewN k)
  case atStart => exact ⟨0, by omega, rfl, 0, rfl⟩
  case round =>
    obtain ⟨i, hi, rfl, kd, rfl⟩ := hrel
    by_cases hlt : i < ms.length
    · obtain ⟨m, hm⟩ : ∃ m, ms[i]? = some m := ⟨ms[i], by simp [hlt]⟩
      obtain ⟨g, off, A1, c1, rfl, hg, x0, x1, x2, hb1⟩ := flight_cells rfl (ho.drewN kd) (hs.imp fun cs m h => (show relF [5] B (w.drewN kd) cs m from h)) hm
      obtain ⟨g', off', A1', c1', rfl, hg', y0, y1, y2, hb2⟩ := flight_cells rfl (ho'.drewN kd) (hs'.imp fun cs m h => (show relF [5] B (w.drewN kd) cs m from h)) hm
      have k1 : ∀ j, (convert 27 9 (.slice A1 m.b.length c1)).run Try.prog (((w.drewN kd)).drewN j) = .ok (.string ⟨m.b.toArray⟩) ((w.drewN kd).drewN j) := fun j => (hb1.drewN j).conv Try.underlying27 Try.underlying5 Try.underlying9
      have k2 : ∀ j, (convert 27 9 (.slice A1' m.b.length c1')).run Try.prog (((w.drewN kd)).drewN j) = .ok (.string ⟨m.b.toArray⟩) ((w.drewN kd).drewN j) := fun j => (hb2.drewN j).conv Try.underlying27 Try.underlying5 Try.underlying9
      have hi2 : (i : Int) < (ms.length : Int) := by omega
      have HI := hid (And.intro hi hm)
      clear hi hm hb1 hb2
      generalize hwo : w.drewN kd = wo at x0 x1 x2 y0 y1 y2 k1 k2 ⊢
      have HW := hid hwo
      clear hwo
      go_wp2_with fail
      go_quiet (fail)
      go_wp2
      go_roundg (gk - 1)
      case measure => have := HI.out.1; omega
      case rel => exact ⟨i + 1, by have := HI.out.1; omega, by go_num, kd + nq, by rw [← HW.out]; simp [World.drewN, World.drew, Nat.add_assoc]⟩
    · have hi2 : ¬ (i : Int) < (ms.length : Int) := by omega
      clear hi
      go_wp2
      go_ret
      exact ⟨rfl, kd, rfl⟩
end Go.Proofs.Ytmffkpcimddbpaa
