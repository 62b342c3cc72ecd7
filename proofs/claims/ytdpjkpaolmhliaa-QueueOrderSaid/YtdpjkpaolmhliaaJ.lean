/- QueueOrder: the walk. -/
import Derived.Test.YtdpjkpaolmhliaaI
set_option linter.all false
namespace Go.Proofs.Ytdpjkpaolmhliaa
open Go.RowKit Go.Hub

def mi (i : Nat) : M := ⟨⟨#[116]⟩, [UInt8.ofNat i], 0, false⟩
def upto (i j : Nat) : List M := (List.range' i (j - i)).map mi
theorem upto_len (i j : Nat) : (upto i j).length = j - i := by simp [upto]
theorem upto_snoc (j : Nat) : upto 0 j ++ [mi j] = upto 0 (j + 1) := by
  simp only [upto, Nat.sub_zero]
  rw [List.range'_concat]
  simp
theorem upto_cons (i j : Nat) (h : i < j) : upto i j = mi i :: upto (i + 1) j := by
  simp only [upto]
  rw [show j - i = (j - (i + 1)) + 1 from by omega, List.range'_succ]
  rfl
theorem upto_nil (j : Nat) : upto j j = [] := by simp [upto]
theorem upto_mem (i j : Nat) : ∀ m ∈ upto i j, m.p.length ≤ 1000000 := fun m hm => by
  simp [upto] at hm
  obtain ⟨a, _, rfl⟩ := hm
  simp [mi]
theorem u8_of (i : Nat) (h : i < 256) : u8 (UInt8.ofNat i) = .int .u8 (i : Int) := by
  unfold u8
  rw [UInt8.toNat_ofNat']
  congr 2
  omega
/-- a new slice of one byte -/
theorem byte_new (B : Nat) (w : World) (i : Nat) (h : i < 256) : Bs [5] B (w.alloc (.cells #[.int .u8 (i : Int)] 5)) (some ⟨w.heap.size, 0, none⟩) 1 [UInt8.ofNat i] :=
  ⟨rfl, fun _ => ⟨w.heap.size, 0, rfl, by simp, .inr ⟨_, 5, _, heap_alloc_new w _, by simp⟩, fun j x hx => by
    match j, hx with
    | 0, hx =>
      simp at hx; subst hx
      rw [u8_of i h]
      simp⟩⟩

set_option maxRecDepth 100000 in
set_option maxHeartbeats 4000000 in
theorem order_any (most n : Int) (w : World) (hm : 0 ≤ most ∧ most ≤ 255) (hn : 0 ≤ n ∧ n ≤ 255) :
    Calls Try.prog 4 #[.int .u8 most, .int .u8 n] w fun e w' => e = .returned (.bool true) ∧ Below w.heap.size w w' := by
  go_enter Try.func4, Try.ntmps4
  go_wp2_with fail
  refine (known_any w).mono ?_
  rintro e w1 ⟨rfl, b1⟩
  go_wp2_with fail
  obtain ⟨k, hk⟩ : ∃ k : Nat, (k : Int) = most % 12 := ⟨(most % 12).toNat, by omega⟩
  obtain ⟨many, hmany⟩ : ∃ k : Nat, (k : Int) = n % 30 := ⟨(n % 30).toNat, by omega⟩
  have hkb : k ≤ 11 := by omega
  have hmb : many ≤ 29 := by omega
  rw [← hk, ← hmany]
  clear hk hmany
  refine (newQ w.heap.size k _ b1.size).mono ?_
  rw [show far16 (k : Int) = (k : Int) from by unfold far16; omega]
  rintro e w2 ⟨rfl, q2, b2⟩
  obtain ⟨b, hb⟩ : ∃ b, b = w1.heap.size := ⟨_, rfl⟩
  rw [← hb] at q2 ⊢
  have S2 : Same [5] w.heap.size w w2 := (Same.of_below b1).trans (.of_below b2)
  clear b1 b2 hb
  go_wp2_with fail
  go_loopg [8] many (fun g v wr => ∃ (i : Nat) (lv : Value), i + g = many ∧ v = .int .i64 i ∧ IsQ w.heap.size wr b lv k ((i - k : Nat) : Int) (upto 0 (min i k)) ∧ Same [5] w.heap.size w wr)
  case atStart => exact ⟨0, _, by omega, rfl, by simpa [upto] using q2, S2⟩
  case round =>
    obtain ⟨i, lv, hi, rfl, q, S⟩ := hrel
    clear q2 S2
    have hml := upto_len 0 (min i k)
    by_cases hlt : i < many
    · have hi2 : (i : Int) < (many : Int) := by omega
      have HI := hid hi
      clear hi
      go_wp2_with fail
      have bel : Below wr.heap.size wr (wr.alloc (.cells #[.int .u8 (i : Int)] 5)) := (Below.refl _ _).alloc (Nat.le_refl _) _
      have q' := q.kept (Kept.of_below bel []) (.of_below bel) (by simp)
      have S' := S.trans (.of_below bel)
      refine (push_any w.heap.size b lv k _ _ (some ⟨wr.heap.size, 0, none⟩) 1 (mi i) _ q' (byte_new _ _ _ (by omega)) (by simp [mi]) S'.size (by omega) (by omega)).mono ?_
      rintro e w5 ⟨rfl, v5, q5, k5, s5, a5⟩
      have S5 := S'.trans s5
      clear q q' S S' k5 s5 a5 bel
      by_cases hik : i < k
      · have d1 : decide (((upto 0 (min i k)).length : Int) < (k : Int)) = true := by rw [hml]; simp; omega
        have F : IsQ w.heap.size w5 b v5 k ((i + 1 - k : Nat) : Int) (upto 0 (min (i + 1) k)) := by
          have e1 : pushN k (upto 0 (min i k)) ((i - k : Nat) : Int) = ((i + 1 - k : Nat) : Int) := by unfold pushN; rw [if_pos (by rw [hml]; omega)]; omega
          have e2 : pushL k (upto 0 (min i k)) (mi i) = upto 0 (min (i + 1) k) := by
            unfold pushL; rw [if_pos (by rw [hml]; omega), show min i k = i from by omega, upto_snoc, show min (i + 1) k = i + 1 from by omega]
          rw [← e1, ← e2]; exact q5
        rw [d1]
        have hik2 : (i : Int) < (k : Int) := by omega
        have HF := hid (And.intro F S5)
        clear q5 S5 F d1 hml
        go_wp2
        go_roundg (gk - 1)
        case measure => have := HI.out; omega
        case rel => exact ⟨i + 1, _, by have := HI.out; omega, by go_num, HF.out.1, HF.out.2⟩
      · have d1 : decide (((upto 0 (min i k)).length : Int) < (k : Int)) = false := by rw [hml]; simp; omega
        have F : IsQ w.heap.size w5 b v5 k ((i + 1 - k : Nat) : Int) (upto 0 (min (i + 1) k)) := by
          have e1 : pushN k (upto 0 (min i k)) ((i - k : Nat) : Int) = ((i + 1 - k : Nat) : Int) := by unfold pushN; rw [if_neg (by rw [hml]; omega)]; omega
          have e2 : pushL k (upto 0 (min i k)) (mi i) = upto 0 (min (i + 1) k) := by
            unfold pushL; rw [if_neg (by rw [hml]; omega), show min i k = k from by omega, show min (i + 1) k = k from by omega]
          rw [← e1, ← e2]; exact q5
        rw [d1]
        have hik2 : ¬ (i : Int) < (k : Int) := by omega
        have HF := hid (And.intro F S5)
        clear q5 S5 F d1 hml
        go_wp2
        go_roundg (gk - 1)
        case measure => have := HI.out; omega
        case rel => exact ⟨i + 1, _, by have := HI.out; omega, by go_num, HF.out.1, HF.out.2⟩
    · obtain rfl : i = many := by omega
      have hi2 : ¬ (i : Int) < (i : Int) := by omega
      clear hi
      obtain ⟨wo, rfl⟩ : ∃ wo : World, wo = wr := ⟨_, rfl⟩
      have hcase : ∃ j : Nat, ∃ lo : Int, min i k = j ∧ ((i - k : Nat) : Int) = lo ∧ ((k < i ∧ j = k ∧ lo = (i : Int) - k) ∨ (i < k ∧ j = i ∧ lo = 0) ∨ (i = k ∧ j = k ∧ lo = 0)) := by
        rcases Nat.lt_trichotomy k i with h | h | h
        · exact ⟨k, (i : Int) - k, by omega, by omega, .inl ⟨h, rfl, rfl⟩⟩
        · exact ⟨k, 0, by omega, by omega, .inr (.inr ⟨h.symm, rfl, rfl⟩)⟩
        · exact ⟨i, 0, by omega, by omega, .inr (.inl ⟨h, rfl, rfl⟩)⟩
      obtain ⟨j, lo, hj, hlo, hcase⟩ := hcase
      rw [hj, hlo] at q
      rw [hj] at hml
      have HM := hid hml
      clear hj hlo hml
      rcases hcase with ⟨hki, rfl, rfl⟩ | ⟨hki, rfl, rfl⟩ | ⟨rfl, rfl, rfl⟩
      all_goals
        go_wp2_with fail
        refine (len_any _ _ _ _ _ _ _ q).mono ?_
        rintro e w5 ⟨rfl, rfl⟩
        rw [HM.out, Nat.sub_zero]
        go_wp2_with fail
        refine (lost_any _ _ _ _ _ _ _ q).mono ?_
        rintro e w5 ⟨rfl, rfl⟩
        go_wp2_with fail
        refine (all_any _ _ _ _ _ _ _ q S.size (by rw [HM.out]; omega) (upto_mem _ _)).mono ?_
        rintro e w5 ⟨A5, c5, rfl, ys, o5, y5, b5, r5⟩
        rw [HM.out, Nat.sub_zero]
        have q5 := q.kept (Kept.of_below b5 []) (.of_below b5) (by simp)
        have S5 := S.trans (.of_below b5)
        clear q S o5 y5 b5 r5
        go_wp2_with fail
        refine (len_any _ _ _ _ _ _ _ q5).mono ?_
        rintro e w6 ⟨rfl, rfl⟩
        rw [HM.out, Nat.sub_zero]
        go_wp2_with fail
        clear HM
        obtain ⟨wp, rfl⟩ : ∃ wp : World, wp = w5 := ⟨_, rfl⟩
      · go_loopg [9] j (fun g v wr => ∃ (t : Nat) (lv : Value), t + g = j ∧ v = .int .i64 t ∧ IsQ w.heap.size wr b lv j ((i : Int) - j) (upto t j) ∧ Same [5] w.heap.size w wr)
        case atStart => exact ⟨0, _, by omega, rfl, q5, S5⟩
        case round =>
          obtain ⟨t, lv, ht, rfl, q, S⟩ := hrel
          clear q5 S5
          by_cases hlt : t < j
          · have ht2 : (t : Int) < (j : Int) := by omega
            have HT := hid ht
            have hlen2 : ((upto (t + 1) j).length : Int) = (j : Int) - 1 - (t : Int) := by rw [upto_len]; omega
            have HL := hid hlen2
            clear ht hlen2
            rw [upto_cons t j hlt] at q
            go_wp2_with fail
            refine (pop_some _ _ _ _ _ _ _ _ q S.size).mono ?_
            rintro e w7 ⟨⟨A7, c7, rfl, m7⟩, v7, q7, k7, s7, a7⟩
            simp only [Bool.false_eq_true, if_false] at q7
            obtain ⟨g7, off7, rfl, hg7, _, hc7⟩ := m7.2 (by simp [mi])
            have x7 := hc7 0 (UInt8.ofNat t) (by simp [mi])
            rw [u8_of t (by omega), Nat.add_zero] at x7
            have S7 := S.trans s7
            have bel : Below w7.heap.size w7 (w7.alloc (.cells #[.string (mi t).t, .slice (some ⟨g7, off7, none⟩) (mi t).p.length c7, .int .i64 (mi t).q, .bool (mi t).r] 27)) := (Below.refl _ _).alloc (Nat.le_refl _) _
            have q8 := q7.kept (Kept.of_below bel []) (.of_below bel) (by simp)
            have S8 := S7.trans (.of_below bel)
            have hpl : (mi t).p.length = 1 := rfl
            clear q S q7 S7 k7 s7 a7 m7 hc7 bel
            go_wp2_with fail
            refine (len_any _ _ _ _ _ _ _ q8).mono ?_
            rintro e w9 ⟨rfl, rfl⟩
            rw [HL.out]
            have HQ := hid (And.intro q8 S8)
            clear q8 S8 x7
            go_wp2
            go_roundg (gk - 1)
            case measure => have := HT.out; omega
            case rel => exact ⟨t + 1, _, by have := HT.out; omega, by go_num, HQ.out.1, HQ.out.2⟩
          · obtain rfl : t = j := by omega
            have ht2 : ¬ (t : Int) < (t : Int) := by omega
            rw [upto_nil] at q
            clear ht
            go_wp2_with fail
            refine (pop_none _ _ _ _ _ _ q S.size).mono ?_
            rintro e w7 ⟨rfl, q7, b7⟩
            unfold zeroAgg
            have S7 := S.trans (.of_below b7)
            have bel : Below w7.heap.size w7 (w7.alloc (.cells #[.string ⟨#[]⟩, .slice none 0 0, .int .i64 0, .bool false] 27)) := (Below.refl _ _).alloc (Nat.le_refl _) _
            have q8 := q7.kept (Kept.of_below bel []) (.of_below bel) (by simp)
            have S8 := S7.trans (.of_below bel)
            clear q S q7 S7 b7 bel
            go_wp2_with fail
            refine (lost_any _ _ _ _ _ _ _ q8).mono ?_
            rintro e w9 ⟨rfl, rfl⟩
            go_wp2
            go_ret
            exact ⟨rfl, S8.below (Nat.le_refl _)⟩
      · go_loopg [9] j (fun g v wr => ∃ (t : Nat) (lv : Value), t + g = j ∧ v = .int .i64 t ∧ IsQ w.heap.size wr b lv k 0 (upto t j) ∧ Same [5] w.heap.size w wr)
        case atStart => exact ⟨0, _, by omega, rfl, q5, S5⟩
        case round =>
          obtain ⟨t, lv, ht, rfl, q, S⟩ := hrel
          clear q5 S5
          by_cases hlt : t < j
          · have ht2 : (t : Int) < (j : Int) := by omega
            have HT := hid ht
            have hlen2 : ((upto (t + 1) j).length : Int) = (j : Int) - 1 - (t : Int) := by rw [upto_len]; omega
            have HL := hid hlen2
            clear ht hlen2
            rw [upto_cons t j hlt] at q
            go_wp2_with fail
            refine (pop_some _ _ _ _ _ _ _ _ q S.size).mono ?_
            rintro e w7 ⟨⟨A7, c7, rfl, m7⟩, v7, q7, k7, s7, a7⟩
            simp only [Bool.false_eq_true, if_false] at q7
            obtain ⟨g7, off7, rfl, hg7, _, hc7⟩ := m7.2 (by simp [mi])
            have x7 := hc7 0 (UInt8.ofNat t) (by simp [mi])
            rw [u8_of t (by omega), Nat.add_zero] at x7
            have S7 := S.trans s7
            have bel : Below w7.heap.size w7 (w7.alloc (.cells #[.string (mi t).t, .slice (some ⟨g7, off7, none⟩) (mi t).p.length c7, .int .i64 (mi t).q, .bool (mi t).r] 27)) := (Below.refl _ _).alloc (Nat.le_refl _) _
            have q8 := q7.kept (Kept.of_below bel []) (.of_below bel) (by simp)
            have S8 := S7.trans (.of_below bel)
            have hpl : (mi t).p.length = 1 := rfl
            clear q S q7 S7 k7 s7 a7 m7 hc7 bel
            go_wp2_with fail
            refine (len_any _ _ _ _ _ _ _ q8).mono ?_
            rintro e w9 ⟨rfl, rfl⟩
            rw [HL.out]
            have HQ := hid (And.intro q8 S8)
            clear q8 S8 x7
            go_wp2
            go_roundg (gk - 1)
            case measure => have := HT.out; omega
            case rel => exact ⟨t + 1, _, by have := HT.out; omega, by go_num, HQ.out.1, HQ.out.2⟩
          · obtain rfl : t = j := by omega
            have ht2 : ¬ (t : Int) < (t : Int) := by omega
            rw [upto_nil] at q
            clear ht
            go_wp2_with fail
            refine (pop_none _ _ _ _ _ _ q S.size).mono ?_
            rintro e w7 ⟨rfl, q7, b7⟩
            unfold zeroAgg
            have S7 := S.trans (.of_below b7)
            have bel : Below w7.heap.size w7 (w7.alloc (.cells #[.string ⟨#[]⟩, .slice none 0 0, .int .i64 0, .bool false] 27)) := (Below.refl _ _).alloc (Nat.le_refl _) _
            have q8 := q7.kept (Kept.of_below bel []) (.of_below bel) (by simp)
            have S8 := S7.trans (.of_below bel)
            clear q S q7 S7 b7 bel
            go_wp2_with fail
            refine (lost_any _ _ _ _ _ _ _ q8).mono ?_
            rintro e w9 ⟨rfl, rfl⟩
            go_wp2
            go_ret
            exact ⟨rfl, S8.below (Nat.le_refl _)⟩
      · go_loopg [9] j (fun g v wr => ∃ (t : Nat) (lv : Value), t + g = j ∧ v = .int .i64 t ∧ IsQ w.heap.size wr b lv j 0 (upto t j) ∧ Same [5] w.heap.size w wr)
        case atStart => exact ⟨0, _, by omega, rfl, q5, S5⟩
        case round =>
          obtain ⟨t, lv, ht, rfl, q, S⟩ := hrel
          clear q5 S5
          by_cases hlt : t < j
          · have ht2 : (t : Int) < (j : Int) := by omega
            have HT := hid ht
            have hlen2 : ((upto (t + 1) j).length : Int) = (j : Int) - 1 - (t : Int) := by rw [upto_len]; omega
            have HL := hid hlen2
            clear ht hlen2
            rw [upto_cons t j hlt] at q
            go_wp2_with fail
            refine (pop_some _ _ _ _ _ _ _ _ q S.size).mono ?_
            rintro e w7 ⟨⟨A7, c7, rfl, m7⟩, v7, q7, k7, s7, a7⟩
            simp only [Bool.false_eq_true, if_false] at q7
            obtain ⟨g7, off7, rfl, hg7, _, hc7⟩ := m7.2 (by simp [mi])
            have x7 := hc7 0 (UInt8.ofNat t) (by simp [mi])
            rw [u8_of t (by omega), Nat.add_zero] at x7
            have S7 := S.trans s7
            have bel : Below w7.heap.size w7 (w7.alloc (.cells #[.string (mi t).t, .slice (some ⟨g7, off7, none⟩) (mi t).p.length c7, .int .i64 (mi t).q, .bool (mi t).r] 27)) := (Below.refl _ _).alloc (Nat.le_refl _) _
            have q8 := q7.kept (Kept.of_below bel []) (.of_below bel) (by simp)
            have S8 := S7.trans (.of_below bel)
            have hpl : (mi t).p.length = 1 := rfl
            clear q S q7 S7 k7 s7 a7 m7 hc7 bel
            go_wp2_with fail
            refine (len_any _ _ _ _ _ _ _ q8).mono ?_
            rintro e w9 ⟨rfl, rfl⟩
            rw [HL.out]
            have HQ := hid (And.intro q8 S8)
            clear q8 S8 x7
            go_wp2
            go_roundg (gk - 1)
            case measure => have := HT.out; omega
            case rel => exact ⟨t + 1, _, by have := HT.out; omega, by go_num, HQ.out.1, HQ.out.2⟩
          · obtain rfl : t = j := by omega
            have ht2 : ¬ (t : Int) < (t : Int) := by omega
            rw [upto_nil] at q
            clear ht
            go_wp2_with fail
            refine (pop_none _ _ _ _ _ _ q S.size).mono ?_
            rintro e w7 ⟨rfl, q7, b7⟩
            unfold zeroAgg
            have S7 := S.trans (.of_below b7)
            have bel : Below w7.heap.size w7 (w7.alloc (.cells #[.string ⟨#[]⟩, .slice none 0 0, .int .i64 0, .bool false] 27)) := (Below.refl _ _).alloc (Nat.le_refl _) _
            have q8 := q7.kept (Kept.of_below bel []) (.of_below bel) (by simp)
            have S8 := S7.trans (.of_below bel)
            clear q S q7 S7 b7 bel
            go_wp2_with fail
            refine (lost_any _ _ _ _ _ _ _ q8).mono ?_
            rintro e w9 ⟨rfl, rfl⟩
            go_wp2
            go_ret
            exact ⟨rfl, S8.below (Nat.le_refl _)⟩
end Go.Proofs.Ytdpjkpaolmhliaa
