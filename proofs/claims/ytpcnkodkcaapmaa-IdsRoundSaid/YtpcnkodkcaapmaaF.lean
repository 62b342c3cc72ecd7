/- IdsRound: the walk. -/
import Derived.Test.YtpcnkodkcaapmaaD
set_option linter.all false
namespace Go.Proofs.Ytpcnkodkcaapmaa
open Go.RowKit Go.Hub Go.Ids

theorem takeF4 (S : List Int) (t r : Int) (h : nxt S t = r) (hS : S.length < 4) : takeN 4 S t = r ∧ takeT 4 S t = r ∧ takeS 4 S t = r :: S ∧ decide ((S.length : Int) < 4) = true := by
  have : ¬ ((4 : Int) ≤ S.length) := by omega
  simp only [takeN, takeT, takeS, if_neg this, h, true_and]
  simp; omega
/-- what is held at the i-th round's head -/
def held (h i : Int) : List Int := if h < i then [h] else []
theorem held_len (h i : Int) : (held h i).length < 4 := by unfold held; split <;> simp
theorem nxt_first (h i : Int) (hi : 1 ≤ i) (hi2 : i ≤ 65535) : nxt (held h i) (i - 1) = i := by
  have e : stp (i - 1) = i := by unfold stp; omega
  rw [nxt_free, e]
  rw [e]; unfold held
  split
  · simp; omega
  · simp
theorem held_next (h i : Int) (hne : i ≠ h) : (i :: held h i).erase i = held h (i + 1) := by
  unfold held
  simp only [List.erase_cons_head]
  by_cases hh : h < i
  · rw [if_pos hh, if_pos (by omega)]
  · rw [if_neg hh, if_neg (by omega)]
theorem held_self (h : Int) : h :: held h h = held h (h + 1) := by
  unfold held
  rw [if_neg (by omega), if_pos (by omega)]
/-- the second loop: the number taken last at the i-th round's head, and the number wanted -/
def want (h i : Int) : Int := if i < h then i else i + 1
def lastT (h i : Int) : Int := if i = 1 then 65535 else want h (i - 1)
theorem nxt_second (h i : Int) (h1 : 1 ≤ h) (h2 : h ≤ 65535) (hi : 1 ≤ i) (hi2 : i ≤ 60) : nxt [h] (lastT h i) = want h i := by
  by_cases hlt : i < h
  · have e : stp (lastT h i) = i := by unfold stp lastT want; split <;> (try split) <;> omega
    have e2 : want h i = i := by unfold want; rw [if_pos hlt]
    rw [nxt_free, e, e2]
    rw [e]; simp; omega
  · by_cases heq : i = h
    · have e : stp (lastT h i) = h := by unfold stp lastT want; split <;> (try split) <;> omega
      have e2 : want h i = h + 1 := by unfold want; rw [if_neg hlt, heq]
      have e3 : stp h = h + 1 := by unfold stp; omega
      rw [nxt_past, e, e3, e2]
      · rw [e]; simp
      · rw [e, e3]; simp; omega
    · have e : stp (lastT h i) = i + 1 := by unfold stp lastT want; split <;> (try split) <;> omega
      have e2 : want h i = i + 1 := by unfold want; rw [if_neg hlt]
      rw [nxt_free, e, e2]
      rw [e]; simp; omega
theorem lastT_next (h i : Int) (hi : 1 ≤ i) : lastT h (i + 1) = want h i := by
  unfold lastT
  rw [if_neg (by omega), show i + 1 - 1 = i from by omega]
theorem want_bd (h i : Int) (hi : 1 ≤ i) (hi2 : i ≤ 60) : 1 ≤ want h i ∧ want h i ≤ 61 := by unfold want; split <;> omega
theorem want_ne (h i : Int) : want h i ≠ h := by unfold want; split <;> omega
theorem lastT_bd (h i : Int) (hi : 1 ≤ i) (hi2 : i ≤ 60) : 0 ≤ lastT h i ∧ lastT h i ≤ 65535 := by
  unfold lastT
  split
  · omega
  · have : 1 ≤ want h (i - 1) ∧ want h (i - 1) ≤ 61 := by unfold want; split <;> omega
    omega

set_option maxRecDepth 100000 in
set_option maxHeartbeats 4000000 in
theorem round_any (hold n : Int) (w : World) (hh : 0 ≤ hold ∧ hold ≤ 65535) (hn : 0 ≤ n ∧ n ≤ 255) :
    Calls Try.prog 4 #[.int .u16 hold, .int .u8 n] w fun e w' => e = .returned (.bool true) ∧ Below w.heap.size w w' := by
  go_enter Try.func4, Try.ntmps4
  go_wp2_with fail
  refine (known_any w).mono ?_
  rintro e w1 ⟨rfl, q1⟩
  have B1 : Below w.heap.size w w1 := q1.below (by simp) (Nat.le_refl _)
  go_wp2_with fail
  refine (newIds 4 _).mono ?_
  rintro e w2 ⟨rfl, h2, q2⟩
  rw [show clamp 4 = 4 from by decide] at h2
  obtain ⟨b, hb⟩ : ∃ b, b = w1.heap.size + 1 := ⟨_, rfl⟩
  obtain ⟨m, hm⟩ : ∃ b, b = w1.heap.size := ⟨_, rfl⟩
  rw [← hb, ← hm] at h2
  rw [← hb]
  have hd : w.heap.size ≤ b ∧ w.heap.size ≤ m := by have := B1.size; omega
  have B2 : Below w.heap.size w w2 := B1.trans (q2.below (by simp) B1.size)
  clear hb hm q2 B1 q1
  go_wp2_with fail
  obtain ⟨h, hhe⟩ : ∃ h, h = hold % 65535 + 1 := ⟨_, rfl⟩
  have hhb : 1 ≤ h ∧ h ≤ 65535 := by omega
  rw [← hhe]
  clear hhe
  go_loopg [7] 65535 (fun k v wr => ∃ i : Int, i + k = 65536 ∧ 1 ≤ i ∧ v = .int .i64 i ∧ IsIds wr b m 4 (i - 1) (held h i) ∧ Below w.heap.size w wr)
  case atStart => exact ⟨1, by omega, by omega, rfl, by rw [show held h 1 = [] from by unfold held; rw [if_neg (by omega)]]; exact h2, B2⟩
  case round =>
    obtain ⟨i, hik, hi1, rfl, h5, hb5⟩ := hrel
    clear h2 B2
    by_cases hi : i ≤ 65535
    · have HIK := hid hik
      clear hik
      go_wp2_with fail
      refine (take_any _ _ _ _ _ _ h5 (by omega) (by omega)).mono ?_
      have e := takeF4 (held h i) (i - 1) i (nxt_first h i hi1 hi) (held_len h i)
      rw [e.1, e.2.1, e.2.2.1, e.2.2.2]
      clear e
      rintro e w7 ⟨rfl, h7, q7⟩
      have hb7 := hb5.trans (q7.below (by simp; omega) hb5.size)
      clear h5 q7 hb5
      by_cases hne : i = h
      · subst hne
        have hfin : IsIds w7 b m 4 (i + 1 - 1) (held i (i + 1)) := by rw [← held_self, show i + 1 - 1 = i from by omega]; exact h7
        have HF := hid (And.intro hfin hb7)
        clear h7 hb7 hfin
        go_wp2
        go_roundg (gk - 1)
        case measure => have := HIK.out; omega
        case rel => exact ⟨i + 1, by have := HIK.out; omega, by omega, rfl, HF.out.1, HF.out.2⟩
      · have hne2 : (i != h) = true := by simpa using hne
        have hheld := hid (held_next h i hne)
        clear hne
        go_wp2_with fail
        refine (free_any _ _ _ _ _ _ (wfi (by omega)) _ h7).mono ?_
        rw [hheld.out, show decide (i ∈ i :: held h i) = true from by simp]
        rintro e w8 ⟨rfl, h8, q8⟩
        have hfin : IsIds w8 b m 4 (i + 1 - 1) (held h (i + 1)) := by rw [show i + 1 - 1 = i from by omega]; exact h8
        have HF := hid (And.intro hfin (hb7.trans (q8.below (by simp; omega) hb7.size)))
        clear h7 hb7 hfin h8 q8
        go_wp2
        go_roundg (gk - 1)
        case measure => have := HIK.out; omega
        case rel => exact ⟨i + 1, by have := HIK.out; omega, by omega, rfl, HF.out.1, HF.out.2⟩
    · obtain rfl : i = 65536 := by omega
      rw [show held h 65536 = [h] from by unfold held; rw [if_pos (by omega)]] at h5
      clear hik
      go_wp2_with fail
      obtain ⟨wo, rfl⟩ : ∃ wo : World, wo = wr := ⟨_, rfl⟩
      go_loopg [10] (n % 20 + 3).toNat (fun k v wr => ∃ i : Int, i + k = n % 20 + 4 ∧ 1 ≤ i ∧ v = .int .i64 i ∧ IsIds wr b m 4 (lastT h i) [h] ∧ Below w.heap.size w wr)
      case atStart => exact ⟨1, by omega, by omega, rfl, h5, hb5⟩
      case round =>
        obtain ⟨i, hik, hi1, rfl, h6, hb6⟩ := hrel
        clear h5 hb5
        by_cases hi : i ≤ n % 20 + 3
        · have HIK := hid hik
          clear hik
          have hw := want_bd h i hi1 (by omega)
          have hl := lastT_bd h i hi1 (by omega)
          have hge : (h ≤ i → want h i = i + 1) ∧ (¬ h ≤ i → want h i = i) := by unfold want; constructor <;> intro hx <;> split <;> omega
          have HN := hid (And.intro (nxt_second h i hhb.1 hhb.2 hi1 (by omega)) (And.intro (lastT_next h i hi1) (want_ne h i)))
          by_cases hc : h ≤ i
          all_goals
            first
              | rw [hge.1 hc] at *
              | rw [hge.2 hc] at *
            clear hge
            go_wp2_with fail
            refine (take_any _ _ _ _ _ _ h6 (by omega) (by omega)).mono ?_
            have e := takeF4 [h] (lastT h i) _ HN.out.1 (by simp)
            rw [e.1, e.2.1, e.2.2.1, e.2.2.2]
            clear e
            rintro e w7 ⟨rfl, h7, q7⟩
            have hb7 := hb6.trans (q7.below (by simp; omega) hb6.size)
            clear h6 q7 hb6
            go_wp2_with fail
            refine (free_any _ _ _ _ _ _ (wfi (by omega)) _ h7).mono ?_
            simp only [List.erase_cons_head, List.mem_cons_self, decide_true]
            rintro e w8 ⟨rfl, h8, q8⟩
            rw [← HN.out.2.1] at h8
            have HF := hid (And.intro h8 (hb7.trans (q8.below (by simp; omega) hb7.size)))
            clear h7 hb7 h8 q8
            go_wp2
            go_roundg (gk - 1)
            case measure => have := HIK.out; omega
            case rel => exact ⟨i + 1, by have := HIK.out; omega, by omega, rfl, HF.out.1, HF.out.2⟩
        · go_wp2_with fail
          refine (len_any _ _ _ _ _ _ h6).mono ?_
          rintro e w7 ⟨rfl, rfl⟩
          go_wp2_with fail
          refine (has_any _ _ _ _ _ _ (wfi (by omega)) _ h6).mono ?_
          rw [show decide (h ∈ [h]) = true from by simp]
          rintro e w7 ⟨rfl, rfl⟩
          go_wp2
          go_ret
          exact ⟨rfl, hb6⟩
end Go.Proofs.Ytpcnkodkcaapmaa
