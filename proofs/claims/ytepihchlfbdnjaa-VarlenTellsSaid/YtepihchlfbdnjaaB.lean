/- The contract of the reference's Read. -/
import Derived.Test.YtepihchlfbdnjaaA
set_option linter.all false
namespace Go.Proofs.Ytepihchlfbdnjaa
open Go.RowKit Go.Hub Go.Vl
set_option maxHeartbeats 2000000 in
theorem readR_any (A : Option Addr) (n c : Nat) (l : List UInt8) (w : World) (hn : n = l.length) (hm : n ≤ maxLen) (h : Rds w w.heap.size 1 A n (l.map u8)) :
    Calls Try.prog 13 #[.slice A n c] w fun e w' => e = .returned (rdTuple l) ∧ w = w' := by
  subst hn
  unfold maxLen at hm
  have HR := hid (show rd l 4 0 0 = readL l from rfl)
  have HH := hid h
  clear h
  go_enter Try.func13, Try.ntmps13
  go_wp2
  go_loopg [5, 6] 4 (fun g a v wr => ∃ (i : Nat) (acc : Int), i + g = 4 ∧ i ≤ l.length ∧ v = .int .i64 i ∧ a = .int .i64 acc ∧ (0 ≤ acc ∧ acc < 128 ^ i) ∧ rd l g i acc = readL l ∧ w = wr)
  case atStart => exact ⟨0, 0, rfl, by omega, rfl, rfl, by omega, HR.out, rfl⟩
  case round =>
    obtain ⟨i, acc, hi, hil, rfl, rfl, ha, hr, rfl⟩ := hrel
    have HX := hid hr
    clear hr HR
    rcases (show (i = 0 ∧ gk = 4) ∨ (i = 1 ∧ gk = 3) ∨ (i = 2 ∧ gk = 2) ∨ (i = 3 ∧ gk = 1) ∨ (i = 4 ∧ gk = 0) by omega) with ⟨rfl, rfl⟩ | ⟨rfl, rfl⟩ | ⟨rfl, rfl⟩ | ⟨rfl, rfl⟩ | ⟨rfl, rfl⟩
    · have ha2 : 0 ≤ acc ∧ acc < 1 := by simpa using ha
      have haP : acc < 128 ^ 0 := ha.2
      clear ha
      rcases hc : l[0]? with _ | c0
      · have hl0 : l.length = 0 := by have := List.getElem?_eq_none_iff.1 hc; omega
        have hne : (l.length : Int) ≤ 0 := by omega
        have HE := hid (show readL l = (0, 0, 20) by rw [← HX.out, rd, hc])
        obtain rfl : l = [] := List.eq_nil_of_length_eq_zero hl0
        clear hc hl0 hil haP hne
        go_wp2
        go_ret3
        exact ⟨by first | (unfold rdTuple; rw [HE.out] <;> rfl) | rfl, rfl⟩
      · obtain ⟨g, off, rfl, hcell⟩ := byte_at HH.out hc
        have hl := (List.getElem?_eq_some_iff.1 hc).1
        have hl2 : (0 : Int) < (l.length : Int) := by omega
        obtain ⟨z, hz⟩ : ∃ z : Int, z = (c0.toNat : Int) := ⟨_, rfl⟩
        rw [← hz] at hcell
        rw [Nat.add_zero] at hcell
        have hnn : ¬ l = [] := by rintro rfl; simp at hl
        have hzb : 0 ≤ z ∧ z < 256 := by have := c0.toNat_lt; omega
        have hclr := u8_low z hzb.1 hzb.2
        have hor : bits BinOp.or IntKind.i64 acc (z % 128) = acc + z % 128 := i64_or 0 acc (z % 128) (by omega) (by omega) (by omega) (by omega) (by omega) (by omega)
        have HZ := hid (show c0.toNat < 128 → (szN (acc + z % 128) = 1 ↔ ¬ (0 < 0 ∧ c0.toNat = 0)) from fun hlt => by
          have := szN_read 0 (by omega) acc c0.toNat ha2.1 haP hlt
          rw [show (acc + z % 128 : Int) = acc + (c0.toNat : Int) * 128 ^ 0 from by rw [← hz, show z % 128 = z from by omega]; simp]
          exact this)
        have HC := hid (And.intro hc hz)
        clear hc hz hm hil haP
        by_cases hz1 : z < 128
        · have hs : szN (acc + z % 128) = 1 := (HZ.out (by have := HC.out.2; omega)).2 (by have := HC.out.2; omega)
          have HS := hid hs
          have HE := hid (show readL l = (acc + z % 128, 1, 0) by rw [← HX.out, rd, HC.out.1]; simp only []; rw [if_pos (by have := HC.out.2; omega), if_neg (by have := HC.out.2; omega)]; simp; have := HC.out.2; omega)
          clear hs
          go_wp2_with fail
          refine (sizeR_any _ _).mono ?_
          rintro e w1 ⟨rfl, rfl⟩
          rw [HS.out]
          go_wp2
          go_ret3
          exact ⟨by first | (unfold rdTuple; rw [HE.out] <;> rfl) | rfl, rfl⟩
        · have HE := hid (show rd l 3 1 (acc + z % 128) = readL l by rw [← HX.out, rd_more HC.out.1 (by have := HC.out.2; omega)]; congr 1; have := HC.out.2; simp; omega)
          have hdz : decide (z < 128) = false := by simp; omega
          go_wp2
          go_roundg 3
          case measure => omega
          case rel => exact ⟨1, acc + z % 128, rfl, by omega, rfl, rfl, by simp; omega, HE.out, rfl⟩
    · have ha2 : 0 ≤ acc ∧ acc < 128 := by simpa using ha
      have haP : acc < 128 ^ 1 := ha.2
      clear ha
      rcases hc : l[1]? with _ | c0
      · have hl0 : l.length = 1 := by have := List.getElem?_eq_none_iff.1 hc; omega
        have hne : (l.length : Int) ≤ 1 := by omega
        have HE := hid (show readL l = (0, 0, 20) by rw [← HX.out, rd, hc])
        clear hc hl0 hil haP
        go_wp2
        go_ret3
        exact ⟨by first | (unfold rdTuple; rw [HE.out] <;> rfl) | rfl, rfl⟩
      · obtain ⟨g, off, rfl, hcell⟩ := byte_at HH.out hc
        have hl := (List.getElem?_eq_some_iff.1 hc).1
        have hl2 : (1 : Int) < (l.length : Int) := by omega
        obtain ⟨z, hz⟩ : ∃ z : Int, z = (c0.toNat : Int) := ⟨_, rfl⟩
        rw [← hz] at hcell
        have hzb : 0 ≤ z ∧ z < 256 := by have := c0.toNat_lt; omega
        have hclr := u8_low z hzb.1 hzb.2
        have hor : bits BinOp.or IntKind.i64 acc (z % 128 * 128) = acc + z % 128 * 128 := i64_or 7 acc (z % 128 * 128) (by omega) (by omega) (by omega) (by omega) (by omega) (by omega)
        have HZ := hid (show c0.toNat < 128 → (szN (acc + z % 128 * 128) = 2 ↔ ¬ (0 < 1 ∧ c0.toNat = 0)) from fun hlt => by
          have := szN_read 1 (by omega) acc c0.toNat ha2.1 haP hlt
          rw [show (acc + z % 128 * 128 : Int) = acc + (c0.toNat : Int) * 128 ^ 1 from by rw [← hz, show z % 128 = z from by omega]; simp]
          exact this)
        have HC := hid (And.intro hc hz)
        clear hc hz hm hil haP
        by_cases hz1 : z < 128
        · by_cases hz0 : z = 0
          · have hs : ¬ szN (acc + z % 128 * 128) = 2 := fun h => (HZ.out (by have := HC.out.2; omega)).1 h ⟨by omega, by have := HC.out.2; omega⟩
            have hs2 : (((szN (acc + z % 128 * 128) : Nat) : Int) != 2) = true := by simp; omega
            have HE := hid (show readL l = (0, 0, 21) by rw [← HX.out, rd, HC.out.1]; simp only []; rw [if_pos (by have := HC.out.2; omega), if_pos ⟨by omega, by have := HC.out.2; omega⟩])
            have HQ := hid hs2
            clear hz0 hs hs2
            go_wp2_with fail
            refine (sizeR_any _ _).mono ?_
            rintro e w1 ⟨rfl, rfl⟩
            have hs2 := HQ.out
            generalize szN (acc + z % 128 * 128) = ss at *
            go_wp2
            go_ret3
            exact ⟨by first | (unfold rdTuple; rw [HE.out] <;> rfl) | rfl, rfl⟩
          · have hs : szN (acc + z % 128 * 128) = 2 := (HZ.out (by have := HC.out.2; omega)).2 (by have := HC.out.2; omega)
            have HS := hid hs
            have HE := hid (show readL l = (acc + z % 128 * 128, 2, 0) by rw [← HX.out, rd, HC.out.1]; simp only []; rw [if_pos (by have := HC.out.2; omega), if_neg (by have := HC.out.2; omega)]; simp; have := HC.out.2; omega)
            clear hs
            go_wp2_with fail
            refine (sizeR_any _ _).mono ?_
            rintro e w1 ⟨rfl, rfl⟩
            rw [HS.out]
            go_wp2
            go_ret3
            exact ⟨by first | (unfold rdTuple; rw [HE.out] <;> rfl) | rfl, rfl⟩
        · have HE := hid (show rd l 2 2 (acc + z % 128 * 128) = readL l by rw [← HX.out, rd_more HC.out.1 (by have := HC.out.2; omega)]; congr 1; have := HC.out.2; simp; omega)
          have hdz : decide (z < 128) = false := by simp; omega
          go_wp2
          go_roundg 2
          case measure => omega
          case rel => exact ⟨2, acc + z % 128 * 128, rfl, by omega, rfl, rfl, by simp; omega, HE.out, rfl⟩
    · have ha2 : 0 ≤ acc ∧ acc < 16384 := by simpa using ha
      have haP : acc < 128 ^ 2 := ha.2
      clear ha
      rcases hc : l[2]? with _ | c0
      · have hl0 : l.length = 2 := by have := List.getElem?_eq_none_iff.1 hc; omega
        have hne : (l.length : Int) ≤ 2 := by omega
        have HE := hid (show readL l = (0, 0, 20) by rw [← HX.out, rd, hc])
        clear hc hl0 hil haP
        go_wp2
        go_ret3
        exact ⟨by first | (unfold rdTuple; rw [HE.out] <;> rfl) | rfl, rfl⟩
      · obtain ⟨g, off, rfl, hcell⟩ := byte_at HH.out hc
        have hl := (List.getElem?_eq_some_iff.1 hc).1
        have hl2 : (2 : Int) < (l.length : Int) := by omega
        obtain ⟨z, hz⟩ : ∃ z : Int, z = (c0.toNat : Int) := ⟨_, rfl⟩
        rw [← hz] at hcell
        have hzb : 0 ≤ z ∧ z < 256 := by have := c0.toNat_lt; omega
        have hclr := u8_low z hzb.1 hzb.2
        have hor : bits BinOp.or IntKind.i64 acc (z % 128 * 16384) = acc + z % 128 * 16384 := i64_or 14 acc (z % 128 * 16384) (by omega) (by omega) (by omega) (by omega) (by omega) (by omega)
        have HZ := hid (show c0.toNat < 128 → (szN (acc + z % 128 * 16384) = 3 ↔ ¬ (0 < 2 ∧ c0.toNat = 0)) from fun hlt => by
          have := szN_read 2 (by omega) acc c0.toNat ha2.1 haP hlt
          rw [show (acc + z % 128 * 16384 : Int) = acc + (c0.toNat : Int) * 128 ^ 2 from by rw [← hz, show z % 128 = z from by omega]; simp]
          exact this)
        have HC := hid (And.intro hc hz)
        clear hc hz hm hil haP
        by_cases hz1 : z < 128
        · by_cases hz0 : z = 0
          · have hs : ¬ szN (acc + z % 128 * 16384) = 3 := fun h => (HZ.out (by have := HC.out.2; omega)).1 h ⟨by omega, by have := HC.out.2; omega⟩
            have hs2 : (((szN (acc + z % 128 * 16384) : Nat) : Int) != 3) = true := by simp; omega
            have HE := hid (show readL l = (0, 0, 21) by rw [← HX.out, rd, HC.out.1]; simp only []; rw [if_pos (by have := HC.out.2; omega), if_pos ⟨by omega, by have := HC.out.2; omega⟩])
            have HQ := hid hs2
            clear hz0 hs hs2
            go_wp2_with fail
            refine (sizeR_any _ _).mono ?_
            rintro e w1 ⟨rfl, rfl⟩
            have hs2 := HQ.out
            generalize szN (acc + z % 128 * 16384) = ss at *
            go_wp2
            go_ret3
            exact ⟨by first | (unfold rdTuple; rw [HE.out] <;> rfl) | rfl, rfl⟩
          · have hs : szN (acc + z % 128 * 16384) = 3 := (HZ.out (by have := HC.out.2; omega)).2 (by have := HC.out.2; omega)
            have HS := hid hs
            have HE := hid (show readL l = (acc + z % 128 * 16384, 3, 0) by rw [← HX.out, rd, HC.out.1]; simp only []; rw [if_pos (by have := HC.out.2; omega), if_neg (by have := HC.out.2; omega)]; simp; have := HC.out.2; omega)
            clear hs
            go_wp2_with fail
            refine (sizeR_any _ _).mono ?_
            rintro e w1 ⟨rfl, rfl⟩
            rw [HS.out]
            go_wp2
            go_ret3
            exact ⟨by first | (unfold rdTuple; rw [HE.out] <;> rfl) | rfl, rfl⟩
        · have HE := hid (show rd l 1 3 (acc + z % 128 * 16384) = readL l by rw [← HX.out, rd_more HC.out.1 (by have := HC.out.2; omega)]; congr 1; have := HC.out.2; simp; omega)
          have hdz : decide (z < 128) = false := by simp; omega
          go_wp2
          go_roundg 1
          case measure => omega
          case rel => exact ⟨3, acc + z % 128 * 16384, rfl, by omega, rfl, rfl, by simp; omega, HE.out, rfl⟩
    · have ha2 : 0 ≤ acc ∧ acc < 2097152 := by simpa using ha
      have haP : acc < 128 ^ 3 := ha.2
      clear ha
      rcases hc : l[3]? with _ | c0
      · have hl0 : l.length = 3 := by have := List.getElem?_eq_none_iff.1 hc; omega
        have hne : (l.length : Int) ≤ 3 := by omega
        have HE := hid (show readL l = (0, 0, 20) by rw [← HX.out, rd, hc])
        clear hc hl0 hil haP
        go_wp2
        go_ret3
        exact ⟨by first | (unfold rdTuple; rw [HE.out] <;> rfl) | rfl, rfl⟩
      · obtain ⟨g, off, rfl, hcell⟩ := byte_at HH.out hc
        have hl := (List.getElem?_eq_some_iff.1 hc).1
        have hl2 : (3 : Int) < (l.length : Int) := by omega
        obtain ⟨z, hz⟩ : ∃ z : Int, z = (c0.toNat : Int) := ⟨_, rfl⟩
        rw [← hz] at hcell
        have hzb : 0 ≤ z ∧ z < 256 := by have := c0.toNat_lt; omega
        have hclr := u8_low z hzb.1 hzb.2
        have hor : bits BinOp.or IntKind.i64 acc (z % 128 * 2097152) = acc + z % 128 * 2097152 := i64_or 21 acc (z % 128 * 2097152) (by omega) (by omega) (by omega) (by omega) (by omega) (by omega)
        have HZ := hid (show c0.toNat < 128 → (szN (acc + z % 128 * 2097152) = 4 ↔ ¬ (0 < 3 ∧ c0.toNat = 0)) from fun hlt => by
          have := szN_read 3 (by omega) acc c0.toNat ha2.1 haP hlt
          rw [show (acc + z % 128 * 2097152 : Int) = acc + (c0.toNat : Int) * 128 ^ 3 from by rw [← hz, show z % 128 = z from by omega]; simp]
          exact this)
        have HC := hid (And.intro hc hz)
        clear hc hz hm hil haP
        by_cases hz1 : z < 128
        · by_cases hz0 : z = 0
          · have hs : ¬ szN (acc + z % 128 * 2097152) = 4 := fun h => (HZ.out (by have := HC.out.2; omega)).1 h ⟨by omega, by have := HC.out.2; omega⟩
            have hs2 : (((szN (acc + z % 128 * 2097152) : Nat) : Int) != 4) = true := by simp; omega
            have HE := hid (show readL l = (0, 0, 21) by rw [← HX.out, rd, HC.out.1]; simp only []; rw [if_pos (by have := HC.out.2; omega), if_pos ⟨by omega, by have := HC.out.2; omega⟩])
            have HQ := hid hs2
            clear hz0 hs hs2
            go_wp2_with fail
            refine (sizeR_any _ _).mono ?_
            rintro e w1 ⟨rfl, rfl⟩
            have hs2 := HQ.out
            generalize szN (acc + z % 128 * 2097152) = ss at *
            go_wp2
            go_ret3
            exact ⟨by first | (unfold rdTuple; rw [HE.out] <;> rfl) | rfl, rfl⟩
          · have hs : szN (acc + z % 128 * 2097152) = 4 := (HZ.out (by have := HC.out.2; omega)).2 (by have := HC.out.2; omega)
            have HS := hid hs
            have HE := hid (show readL l = (acc + z % 128 * 2097152, 4, 0) by rw [← HX.out, rd, HC.out.1]; simp only []; rw [if_pos (by have := HC.out.2; omega), if_neg (by have := HC.out.2; omega)]; simp; have := HC.out.2; omega)
            clear hs
            go_wp2_with fail
            refine (sizeR_any _ _).mono ?_
            rintro e w1 ⟨rfl, rfl⟩
            rw [HS.out]
            go_wp2
            go_ret3
            exact ⟨by first | (unfold rdTuple; rw [HE.out] <;> rfl) | rfl, rfl⟩
        · have HE := hid (show rd l 0 4 (acc + z % 128 * 2097152) = readL l by rw [← HX.out, rd_more HC.out.1 (by have := HC.out.2; omega)]; congr 1; have := HC.out.2; simp; omega)
          have hdz : decide (z < 128) = false := by simp; omega
          go_wp2
          go_roundg 0
          case measure => omega
          case rel => exact ⟨4, acc + z % 128 * 2097152, rfl, by omega, rfl, rfl, by simp; omega, HE.out, rfl⟩
    · have HE := hid (show readL l = (0, 0, 21) by rw [← HX.out, rd])
      clear hil ha
      go_wp2
      go_ret3
      exact ⟨by first | (unfold rdTuple; rw [HE.out] <;> rfl) | rfl, rfl⟩
end Go.Proofs.Ytepihchlfbdnjaa
