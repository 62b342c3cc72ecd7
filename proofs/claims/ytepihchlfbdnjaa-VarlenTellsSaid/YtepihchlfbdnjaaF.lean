/- VarlenShort, VarlenBack, VarlenGrows: the walks. -/
import Derived.Test.YtepihchlfbdnjaaE
import Derived.Test.YtepihchlfbdnjaaLaws
set_option linter.all false
namespace Go.Proofs.Ytepihchlfbdnjaa
open Go.RowKit Go.Hub Go.Vl

def errN (n : Int) : Int := if szN n = 0 then 31 else 0
theorem PutPost.view {n : Int} {w w' : World} {e : Ending} (h : PutPost n w e w') : ∃ A c, e = .returned (.tuple #[.slice A (szN n) c, .int .i64 (errN n)]) ∧ szN n ≤ c ∧ c ≤ maxLen ∧ Bs [5] 0 w' A (szN n) (putL n) ∧ Below w.heap.size w w' := by
  obtain ⟨hb, h | ⟨h0, v, rfl, ho, hk⟩⟩ := h
  · obtain ⟨hz, rfl⟩ := h
    refine ⟨none, 0, by unfold errN; rw [if_pos hz, hz], by omega, by simp [maxLen], ?_, hb⟩
    have : putL n = [] := List.eq_nil_of_length_eq_zero (by rw [putL_len, hz])
    rw [hz, this]
    exact Bs.nil _ _ _ _
  · obtain ⟨A, c, rfl, hc1, hc2⟩ := ho.form
    exact ⟨A, c, by unfold errN; rw [if_neg (by omega)], hc1, hc2, Bs.of_own ho (by simp), hb⟩
theorem errN_ok {n : Int} (h : 0 ≤ n ∧ n ≤ 268435455) : errN n = 0 := by
  unfold errN; rw [if_neg]; have := szN_pos n h; omega
theorem _root_.Go.Hub.Bs.head {E : List TypeId} {B : Nat} {w : World} {A : Option Addr} {n : Nat} {l : List UInt8} (h : Bs E B w A n l) {k : Nat} (hk : k ≤ n) : Bs E B w A k (l.take k) := by
  refine ⟨by rw [List.length_take, h.1]; omega, fun hp => ?_⟩
  obtain ⟨b, off, e, hb, ht, hc⟩ := h.2 (by omega)
  refine ⟨b, off, e, hb, ht, fun j x hx => hc j x ?_⟩
  rw [List.getElem?_take] at hx
  split at hx
  · exact hx
  · cases hx

set_option maxRecDepth 100000 in
set_option maxHeartbeats 1000000 in
theorem short_any (n k : Int) (w : World) (hn : 0 ≤ n ∧ n ≤ 4294967295) (hk : 0 ≤ k ∧ k ≤ 255) :
    Calls Try.prog 5 #[.int .u32 n, .int .u8 k] w fun e w' => e = .returned (.bool true) ∧ Below w.heap.size w w' := by
  go_enter Try.func5, Try.ntmps5
  go_wp2_with fail
  refine (known_any w).mono ?_
  rintro e w1 ⟨rfl, hb1⟩
  go_wp2_with fail
  obtain ⟨x, hx⟩ : ∃ x, x = n % 268435456 := ⟨_, rfl⟩
  rw [← hx]
  have hxb : 0 ≤ x ∧ x ≤ 268435455 := by omega
  clear hx hn
  refine (put_any x w1).mono ?_
  rintro e w2 h
  obtain ⟨A, c, rfl, hc1, hc2, hbs, hb2⟩ := h.view
  clear h
  have hp := szN_pos x hxb
  obtain ⟨j, hj, hjl⟩ : ∃ j : Nat, k % (szN x : Int) = j ∧ j < szN x := by
    have h1 := Int.emod_nonneg k (show (szN x : Int) ≠ 0 by omega)
    have h2 := Int.emod_lt_of_pos k (show (0 : Int) < (szN x : Int) by omega)
    exact ⟨(k % (szN x : Int)).toNat, by omega, by omega⟩
  rw [errN_ok hxb]
  have HB := hid (And.intro hbs (And.intro (hb1.trans (hb2.mono hb1.size)) hxb))
  clear hbs hb1 hb2 hxb
  have e1 : ((szN x : Int) == 0) = false := by simp; omega
  go_wp2_with fail
  refine (read_any A j _ ((putL x).take j) w2 (by rw [List.length_take, putL_len]; omega) (by unfold maxLen at *; omega) (HB.out.1.head (by omega)).rds).mono ?_
  rintro e w3 ⟨rfl, rfl⟩
  unfold rdTuple
  rw [read_short ((putL x).take j) x j hjl (by rw [List.length_take, putL_len]; omega) (begins_take x j (by omega))]
  go_wp2
  go_ret
  exact ⟨rfl, HB.out.2.1⟩

set_option maxRecDepth 100000 in
set_option maxHeartbeats 1000000 in
theorem back_any (n : Int) (A : Option Addr) (c : Nat) (l : List UInt8) (w : World) (hn : 0 ≤ n ∧ n ≤ 4294967295) (hm : l.length ≤ maxLen) (h : Bs [5] w.heap.size w A l.length l) :
    Calls Try.prog 4 #[.int .u32 n, .slice A l.length c] w fun e w' => e = .returned (.bool true) ∧ Below w.heap.size w w' := by
  obtain ⟨i0, hi0, hz0, hz1, hz2⟩ := info_parts info5
  go_enter Try.func4, Try.ntmps4
  go_wp2_with fail
  refine (known_any w).mono ?_
  rintro e w1 ⟨rfl, hb1⟩
  by_cases hl : l.length ≤ 20
  · have hl2 : decide ((20 : Int) < (l.length : Int)) = false := by simp; omega
    have hl3 : ¬ ((20 : Int) < (l.length : Int)) := by omega
    go_wp2_with fail
    obtain ⟨x, hx⟩ : ∃ x, x = n % 268435456 := ⟨_, rfl⟩
    rw [← hx]
    have hxb : 0 ≤ x ∧ x ≤ 268435455 := by omega
    clear hx hn
    refine (put_any x w1).mono ?_
    rintro e w2 hP
    obtain ⟨A2, c2, rfl, hc1, hc2, hbs, hb2⟩ := hP.view
    clear hP
    rw [errN_ok hxb]
    have hp := szN_le x
    have S : Same [5] w.heap.size w w2 := .of_below (hb1.trans (hb2.mono hb1.size))
    have hr1 := hbs.rds
    have hr2 := (h.same S).rds
    have hlen : (putL x).length = szN x := putL_len x
    have HB := hid (And.intro (hb1.trans (hb2.mono hb1.size)) hxb)
    have h1 := u8_one (l := putL x)
    have h2 := u8_one (l := l)
    have m1 : 0 + szN x ≤ maxLen := by unfold maxLen; omega
    have m2 : (0 + szN x) * 1 ≤ 140737488355328 := by omega
    have m3 : szN x + l.length ≤ maxLen := by unfold maxLen; omega
    have m4 : (szN x + l.length) * 1 ≤ 140737488355328 := by omega
    clear hbs hb1 hb2 hxb h S
    go_wp2_with (first
      | (at_builtin
         refine wpList_append_own' _ rfl (.const (.slice none 0 0)) (.tmp 25) _ rfl 5 i0 _ 1 1 Try.underlying22 hi0 hz0 hz1 hz2 rfl (by omega) (.slice none 0 0) 0 [] rfl (Own.nil _ _ _) _ _ _ _ _ rfl hr1 h1 m1 m2 ?_
         intro v3 w3 ho3 hk3 ha3
         rw [Nat.zero_add, List.nil_append] at ho3
         obtain ⟨A3, c3, rfl, _, _⟩ := ho3.form)
      | (at_builtin
         refine wpList_append_own' _ rfl (.tmp 26) (.tmp 27) _ rfl 5 i0 _ 1 1 Try.underlying22 hi0 hz0 hz1 hz2 rfl (by omega) (.slice A3 (szN x) c3) (szN x) _ rfl ho3 _ _ _ _ _ rfl (hr2.keep (fun p hp => (hk3.below0.cell hp))) h2 m3 m4 ?_
         intro v4 w4 ho4 hk4 ha4
         obtain ⟨A4, c4, rfl, _, _⟩ := ho4.form))
    have ho5 : Own w4 5 1 (.slice A4 (szN x + l.length) c4) (szN x + l.length) ((putL x ++ l).map u8) := by rw [List.map_append]; exact ho4
    have hbel : Below w.heap.size w w4 := by
      have b3 : Below w2.heap.size w2 w3 := hk3.below0
      refine (HB.out.1.trans (b3.mono HB.out.1.size)).trans (hk4.below (fun k hk => ?_) (by have := b3.size; have := HB.out.1.size; omega))
      rcases ha3 k (by simpa using hk) with h | h
      · simp [Value.ownBlock] at h
      · have := HB.out.1.size; omega
    have HF := hid (And.intro ho5 hbel)
    clear ho3 hk3 ha3 ho4 hk4 ha4 ho5 hbel hr1 hr2
    refine (read_any A4 (szN x + l.length) c4 (putL x ++ l) w4 (by rw [List.length_append, hlen]) (by unfold maxLen; omega) HF.out.1.rds).mono ?_
    rintro e w5 ⟨rfl, rfl⟩
    unfold rdTuple
    rw [read_back (putL x ++ l) x HB.out.2 (begins_put x l)]
    go_wp2_with fail
    refine (size_any x w4).mono ?_
    rintro e w5 ⟨rfl, rfl⟩
    go_wp2
    go_ret
    exact ⟨rfl, HF.out.2⟩
  · have hl2 : decide ((20 : Int) < (l.length : Int)) = true := by simp; omega
    have hl3 : (20 : Int) < (l.length : Int) := by omega
    clear h
    go_wp2
    go_ret
    exact ⟨rfl, hb1⟩
set_option maxRecDepth 100000 in
set_option maxHeartbeats 1000000 in
theorem grows_any (a b k : Int) (w : World) (ha : 0 ≤ a ∧ a ≤ 4294967295) (hb : 0 ≤ b ∧ b ≤ 4294967295) (hk : 0 ≤ k ∧ k ≤ 255) :
    Calls Try.prog 6 #[.int .u32 a, .int .u32 b, .int .u8 k] w fun e w' => e = .returned (.bool true) ∧ Below w.heap.size w w' := by
  go_enter Try.func6, Try.ntmps6
  go_wp2_with fail
  refine (known_any w).mono ?_
  rintro e w1 ⟨rfl, hb1⟩
  go_wp2_with fail
  obtain ⟨x, hx⟩ : ∃ x, x = a % 268435456 / 2 ^ (k % 28).toNat := ⟨_, rfl⟩
  obtain ⟨y, hy⟩ : ∃ y, y = b % 268435456 / 2 ^ (k % 28).toNat := ⟨_, rfl⟩
  have hxb : 0 ≤ x ∧ x ≤ 268435455 := by
    rw [hx]
    exact ⟨Int.ediv_nonneg (by omega) (Int.pow_nonneg (by omega)), Int.le_trans (Int.ediv_le_self _ (by omega)) (by omega)⟩
  have hyb : 0 ≤ y ∧ y ≤ 268435455 := by
    rw [hy]
    exact ⟨Int.ediv_nonneg (by omega) (Int.pow_nonneg (by omega)), Int.le_trans (Int.ediv_le_self _ (by omega)) (by omega)⟩
  rw [← hx, ← hy]
  clear hx hy ha hb hk
  refine (put_any x w1).mono ?_
  rintro e w2 hP
  obtain ⟨A2, c2, rfl, hc1, hc2, hbs, hb2⟩ := hP.view
  clear hP
  rw [errN_ok hxb]
  go_wp2_with fail
  refine (put_any y w2).mono ?_
  rintro e w3 hP
  obtain ⟨A3, c3, rfl, hd1, hd2, hbs3, hb3⟩ := hP.view
  clear hP
  rw [errN_ok hyb]
  have hcv2 := (hbs.same (.of_below hb3)).conv (c := c2) Try.underlying22 Try.underlying5 Try.underlying9
  have hcv3 := hbs3.conv (c := c3) Try.underlying22 Try.underlying5 Try.underlying9
  have p1 := szN_pos x hxb
  have p2 := szN_le x
  have HB := hid ((hb1.trans (hb2.mono hb1.size)).trans (hb3.mono (Nat.le_trans hb1.size hb2.size)))
  clear hbs hbs3 hb1 hb2 hb3 hc1 hc2 hd1 hd2
  have q1 : (1 : Int) ≤ (szN x : Int) := by omega
  have q2 : (szN x : Int) ≤ 4 := by omega
  rcases Int.lt_trichotomy x y with h | h | h
  · have m1 := szN_mono x y hxb.1 (by omega) hyb.2
    have e1 : (x == y) = false := by simp; omega
    have e0 : ¬ putL x = putL y := by
      intro h3
      have h4 := put_inj x y hxb hyb h3
      omega
    have e2 : ¬ (⟨(putL x).toArray⟩ : ByteArray) = ⟨(putL y).toArray⟩ := by simpa using e0
    have e6 : (putL x == putL y) = false := by simpa using e0
    have e3 : decide (y < x) = false := by simp; omega
    have e4 : (szN x : Int) ≤ (szN y : Int) := by omega
    have e5 : ¬ y < x := by omega
    clear hxb hyb h
    go_wp2_with fail
    refine (size_any x w3).mono ?_
    rintro e w4 ⟨rfl, rfl⟩
    go_wp2_with fail
    refine (size_any x w3).mono ?_
    rintro e w4 ⟨rfl, rfl⟩
    go_wp2
    go_ret
    exact ⟨rfl, HB.out⟩
  · subst h
    have e1 : (x == x) = true := by simp
    have e3 : decide (x < x) = false := by simp
    have e5 : ¬ x < x := by omega
    clear hxb hyb
    go_wp2_with fail
    refine (size_any x w3).mono ?_
    rintro e w4 ⟨rfl, rfl⟩
    go_wp2_with fail
    refine (size_any x w3).mono ?_
    rintro e w4 ⟨rfl, rfl⟩
    go_wp2
    go_ret
    exact ⟨rfl, HB.out⟩
  · have e1 : (x == y) = false := by simp; omega
    have e0 : ¬ putL x = putL y := by
      intro h3
      have h4 := put_inj x y hxb hyb h3
      omega
    have e2 : ¬ (⟨(putL x).toArray⟩ : ByteArray) = ⟨(putL y).toArray⟩ := by simpa using e0
    have e6 : (putL x == putL y) = false := by simpa using e0
    have e3 : decide (y < x) = true := by simp; omega
    clear hxb hyb
    go_wp2_with fail
    refine (size_any x w3).mono ?_
    rintro e w4 ⟨rfl, rfl⟩
    go_wp2_with fail
    refine (size_any x w3).mono ?_
    rintro e w4 ⟨rfl, rfl⟩
    go_wp2
    go_ret
    exact ⟨rfl, HB.out⟩

end Go.Proofs.Ytepihchlfbdnjaa
