/- The contracts of Size, of the program and of the reference. -/
import Derived.Test.YtepihchlfbdnjaaRows
import Derived.Test.YtepihchlfbdnjaaMem
import Derived.Test.YtepihchlfbdnjaaBits
import Derived.Test.YtepihchlfbdnjaaPlain
set_option linter.all false
namespace Go.Proofs.Ytepihchlfbdnjaa
open Go.RowKit Go.Hub Go.Vl

theorem szN_cases (n : Int) : (n < 0 ∧ szN n = 0) ∨ (¬ n < 0 ∧ 268435455 < n ∧ szN n = 0) ∨ (¬ n < 0 ∧ ¬ 268435455 < n ∧ n < 128 ∧ szN n = 1) ∨ (¬ n < 0 ∧ ¬ 268435455 < n ∧ ¬ n < 128 ∧ n < 16384 ∧ szN n = 2) ∨
    (¬ n < 0 ∧ ¬ 268435455 < n ∧ ¬ n < 128 ∧ ¬ n < 16384 ∧ n < 2097152 ∧ szN n = 3) ∨ (¬ n < 0 ∧ ¬ 268435455 < n ∧ ¬ n < 128 ∧ ¬ n < 16384 ∧ ¬ n < 2097152 ∧ szN n = 4) := by
  unfold szN; (repeat' split) <;> omega

set_option maxHeartbeats 400000 in
theorem size_any (n : Int) (w : World) : Calls Try.prog 10 #[.int .i64 n] w fun e w' => e = .returned (.int .i64 (szN n)) ∧ w = w' := by
  rcases szN_cases n with ⟨a, h⟩ | ⟨a, b, h⟩ | ⟨a, b, c, h⟩ | ⟨a, b, c, d, h⟩ | ⟨a, b, c, d, f, h⟩ | ⟨a, b, c, d, f, h⟩
  all_goals
    rw [h]
    clear h
    go_enter Try.func10, Try.ntmps10
    go_wp2
    go_ret
    exact ⟨rfl, rfl⟩
set_option maxHeartbeats 400000 in
theorem sizeR_any (n : Int) (w : World) : Calls Try.prog 11 #[.int .i64 n] w fun e w' => e = .returned (.int .i64 (szN n)) ∧ w = w' := by
  rcases szN_cases n with ⟨a, h⟩ | ⟨a, b, h⟩ | ⟨a, b, c, h⟩ | ⟨a, b, c, d, h⟩ | ⟨a, b, c, d, f, h⟩ | ⟨a, b, c, d, f, h⟩
  all_goals
    rw [h]
    clear h
    go_enter Try.func11, Try.ntmps11
    go_wp2
    go_ret
    exact ⟨rfl, rfl⟩

/-- what one Read tells -/
def rdTuple (l : List UInt8) : Value := .tuple #[.int .i64 (readL l).1, .int .i64 (readL l).2.1, .int .i64 (readL l).2.2]

theorem byte_at {w : World} {A : Option Addr} {n : Nat} {l : List UInt8} (h : Rds w w.heap.size 1 A n (l.map u8)) {i : Nat} {c : UInt8} (hc : l[i]? = some c) : ∃ g off, A = some ⟨g, off, none⟩ ∧ w.cell? ⟨g, off + i, none⟩ = some (.int .u8 (c.toNat : Int)) := by
  have hl : i < l.length := (List.getElem?_eq_some_iff.1 hc).1
  have := h.1
  simp at this
  obtain ⟨g, off, e, _, hx⟩ := h.2 (by omega)
  exact ⟨g, off, e, hx i _ (by simp [hc, u8])⟩

theorem rd_more {l : List UInt8} {i k : Nat} {acc : Int} {c : UInt8} (h : l[i]? = some c) (hc : ¬ c.toNat < 128) : rd l (k + 1) i acc = rd l k (i + 1) (acc + (c.toNat % 128 : Nat) * 128 ^ i) := by
  rw [rd, h]; simp only []; rw [if_neg hc]

set_option maxHeartbeats 1000000 in
theorem read_any (A : Option Addr) (n c : Nat) (l : List UInt8) (w : World) (hn : n = l.length) (hm : n ≤ maxLen) (h : Rds w w.heap.size 1 A n (l.map u8)) :
    Calls Try.prog 12 #[.slice A n c] w fun e w' => e = .returned (rdTuple l) ∧ w = w' := by
  subst hn
  unfold maxLen at hm
  have HR := hid (show rd l 4 0 0 = readL l from rfl)
  have HH := hid h
  clear h
  go_enter Try.func12, Try.ntmps12
  go_wp2
  go_loopg [5, 7] 4 (fun g a v wr => ∃ (i : Nat) (acc : Int), i + g = 4 ∧ i ≤ l.length ∧ v = .int .i64 i ∧ a = .int .i64 acc ∧ (0 ≤ acc ∧ acc < 128 ^ i) ∧ rd l g i acc = readL l ∧ w = wr)
  case atStart => exact ⟨0, 0, rfl, by omega, rfl, rfl, by omega, HR.out, rfl⟩
  case round =>
    obtain ⟨i, acc, hi, hil, rfl, rfl, ha, hr, rfl⟩ := hrel
    have HX := hid hr
    clear hr HR
    rcases (show (i = 0 ∧ gk = 4) ∨ (i = 1 ∧ gk = 3) ∨ (i = 2 ∧ gk = 2) ∨ (i = 3 ∧ gk = 1) ∨ (i = 4 ∧ gk = 0) by omega) with ⟨rfl, rfl⟩ | ⟨rfl, rfl⟩ | ⟨rfl, rfl⟩ | ⟨rfl, rfl⟩ | ⟨rfl, rfl⟩
    · have ha2 : 0 ≤ acc ∧ acc < 1 := by simpa using ha
      clear ha
      rcases hc : l[0]? with _ | c0
      · have hl0 : l.length = 0 := by have := List.getElem?_eq_none_iff.1 hc; omega
        have hne : ((0 : Int) == (l.length : Int)) = true := by rw [hl0]; rfl
        have HE := hid (show readL l = (0, 0, 20) by rw [← HX.out, rd, hc])
        clear hc hl0 hil
        go_wp2
        go_ret3
        exact ⟨by unfold rdTuple; rw [HE.out] <;> rfl, rfl⟩
      · obtain ⟨g, off, rfl, hcell⟩ := byte_at HH.out hc
        have hl := (List.getElem?_eq_some_iff.1 hc).1
        have hl2 : (0 : Int) < (l.length : Int) := by omega
        have hne : ((0 : Int) == (l.length : Int)) = false := by simp; omega
        obtain ⟨z, hz⟩ : ∃ z : Int, z = (c0.toNat : Int) := ⟨_, rfl⟩
        rw [← hz] at hcell
        rw [Nat.add_zero] at hcell
        have hzb : 0 ≤ z ∧ z < 256 := by have := c0.toNat_lt; omega
        have hclr := u8_clear z hzb.1 hzb.2
        have hor : bits BinOp.or IntKind.i64 acc (z % 128) = acc + z % 128 := i64_or 0 acc (z % 128) (by omega) (by omega) (by omega) (by omega) (by omega) (by omega)
        have HC := hid (And.intro hc hz)
        clear hc hz hm hil
        by_cases hz1 : z < 128
        · have HE := hid (show readL l = (acc + z % 128, 1, 0) by rw [← HX.out, rd, HC.out.1]; simp only []; rw [if_pos (by have := HC.out.2; omega), if_neg (by have := HC.out.2; omega)]; simp; have := HC.out.2; omega)
          go_wp2
          go_ret3
          exact ⟨by unfold rdTuple; rw [HE.out] <;> rfl, rfl⟩
        · have HE := hid (show rd l 3 1 (acc + z % 128) = readL l by rw [← HX.out, rd_more HC.out.1 (by have := HC.out.2; omega)]; congr 1; have := HC.out.2; simp; omega)
          have hdz : decide (z < 128) = false := by simp; omega
          go_wp2
          go_roundg 3
          case measure => omega
          case rel => exact ⟨1, acc + z % 128, rfl, by omega, rfl, rfl, by simp; omega, HE.out, rfl⟩
    · have ha2 : 0 ≤ acc ∧ acc < 128 := by simpa using ha
      clear ha
      rcases hc : l[1]? with _ | c0
      · have hl0 : l.length = 1 := by have := List.getElem?_eq_none_iff.1 hc; omega
        have hne : ((1 : Int) == (l.length : Int)) = true := by rw [hl0]; rfl
        have HE := hid (show readL l = (0, 0, 20) by rw [← HX.out, rd, hc])
        clear hc hl0 hil
        go_wp2
        go_ret3
        exact ⟨by unfold rdTuple; rw [HE.out] <;> rfl, rfl⟩
      · obtain ⟨g, off, rfl, hcell⟩ := byte_at HH.out hc
        have hl := (List.getElem?_eq_some_iff.1 hc).1
        have hl2 : (1 : Int) < (l.length : Int) := by omega
        have hne : ((1 : Int) == (l.length : Int)) = false := by simp; omega
        obtain ⟨z, hz⟩ : ∃ z : Int, z = (c0.toNat : Int) := ⟨_, rfl⟩
        rw [← hz] at hcell
        have hzb : 0 ≤ z ∧ z < 256 := by have := c0.toNat_lt; omega
        have hclr := u8_clear z hzb.1 hzb.2
        have hor : bits BinOp.or IntKind.i64 acc (z % 128 * 128) = acc + z % 128 * 128 := i64_or 7 acc (z % 128 * 128) (by omega) (by omega) (by omega) (by omega) (by omega) (by omega)
        have HC := hid (And.intro hc hz)
        clear hc hz hm hil
        by_cases hz1 : z < 128
        · by_cases hz0 : z = 0
          · have hd : (z == 0) = true := by simp [hz0]
            have HE := hid (show readL l = (0, 0, 21) by rw [← HX.out, rd, HC.out.1]; simp only []; rw [if_pos (by have := HC.out.2; omega), if_pos ⟨by omega, by have := HC.out.2; omega⟩])
            clear hz0
            go_wp2
            go_ret3
            exact ⟨by unfold rdTuple; rw [HE.out] <;> rfl, rfl⟩
          · have hd : (z == 0) = false := by simp [hz0]
            have HE := hid (show readL l = (acc + z % 128 * 128, 2, 0) by rw [← HX.out, rd, HC.out.1]; simp only []; rw [if_pos (by have := HC.out.2; omega), if_neg (by have := HC.out.2; omega)]; simp; have := HC.out.2; omega)
            go_wp2
            go_ret3
            exact ⟨by unfold rdTuple; rw [HE.out] <;> rfl, rfl⟩
        · have HE := hid (show rd l 2 2 (acc + z % 128 * 128) = readL l by rw [← HX.out, rd_more HC.out.1 (by have := HC.out.2; omega)]; congr 1; have := HC.out.2; simp; omega)
          have hdz : decide (z < 128) = false := by simp; omega
          go_wp2
          go_roundg 2
          case measure => omega
          case rel => exact ⟨2, acc + z % 128 * 128, rfl, by omega, rfl, rfl, by simp; omega, HE.out, rfl⟩
    · have ha2 : 0 ≤ acc ∧ acc < 16384 := by simpa using ha
      clear ha
      rcases hc : l[2]? with _ | c0
      · have hl0 : l.length = 2 := by have := List.getElem?_eq_none_iff.1 hc; omega
        have hne : ((2 : Int) == (l.length : Int)) = true := by rw [hl0]; rfl
        have HE := hid (show readL l = (0, 0, 20) by rw [← HX.out, rd, hc])
        clear hc hl0 hil
        go_wp2
        go_ret3
        exact ⟨by unfold rdTuple; rw [HE.out] <;> rfl, rfl⟩
      · obtain ⟨g, off, rfl, hcell⟩ := byte_at HH.out hc
        have hl := (List.getElem?_eq_some_iff.1 hc).1
        have hl2 : (2 : Int) < (l.length : Int) := by omega
        have hne : ((2 : Int) == (l.length : Int)) = false := by simp; omega
        obtain ⟨z, hz⟩ : ∃ z : Int, z = (c0.toNat : Int) := ⟨_, rfl⟩
        rw [← hz] at hcell
        have hzb : 0 ≤ z ∧ z < 256 := by have := c0.toNat_lt; omega
        have hclr := u8_clear z hzb.1 hzb.2
        have hor : bits BinOp.or IntKind.i64 acc (z % 128 * 16384) = acc + z % 128 * 16384 := i64_or 14 acc (z % 128 * 16384) (by omega) (by omega) (by omega) (by omega) (by omega) (by omega)
        have HC := hid (And.intro hc hz)
        clear hc hz hm hil
        by_cases hz1 : z < 128
        · by_cases hz0 : z = 0
          · have hd : (z == 0) = true := by simp [hz0]
            have HE := hid (show readL l = (0, 0, 21) by rw [← HX.out, rd, HC.out.1]; simp only []; rw [if_pos (by have := HC.out.2; omega), if_pos ⟨by omega, by have := HC.out.2; omega⟩])
            clear hz0
            go_wp2
            go_ret3
            exact ⟨by unfold rdTuple; rw [HE.out] <;> rfl, rfl⟩
          · have hd : (z == 0) = false := by simp [hz0]
            have HE := hid (show readL l = (acc + z % 128 * 16384, 3, 0) by rw [← HX.out, rd, HC.out.1]; simp only []; rw [if_pos (by have := HC.out.2; omega), if_neg (by have := HC.out.2; omega)]; simp; have := HC.out.2; omega)
            go_wp2
            go_ret3
            exact ⟨by unfold rdTuple; rw [HE.out] <;> rfl, rfl⟩
        · have HE := hid (show rd l 1 3 (acc + z % 128 * 16384) = readL l by rw [← HX.out, rd_more HC.out.1 (by have := HC.out.2; omega)]; congr 1; have := HC.out.2; simp; omega)
          have hdz : decide (z < 128) = false := by simp; omega
          go_wp2
          go_roundg 1
          case measure => omega
          case rel => exact ⟨3, acc + z % 128 * 16384, rfl, by omega, rfl, rfl, by simp; omega, HE.out, rfl⟩
    · have ha2 : 0 ≤ acc ∧ acc < 2097152 := by simpa using ha
      clear ha
      rcases hc : l[3]? with _ | c0
      · have hl0 : l.length = 3 := by have := List.getElem?_eq_none_iff.1 hc; omega
        have hne : ((3 : Int) == (l.length : Int)) = true := by rw [hl0]; rfl
        have HE := hid (show readL l = (0, 0, 20) by rw [← HX.out, rd, hc])
        clear hc hl0 hil
        go_wp2
        go_ret3
        exact ⟨by unfold rdTuple; rw [HE.out] <;> rfl, rfl⟩
      · obtain ⟨g, off, rfl, hcell⟩ := byte_at HH.out hc
        have hl := (List.getElem?_eq_some_iff.1 hc).1
        have hl2 : (3 : Int) < (l.length : Int) := by omega
        have hne : ((3 : Int) == (l.length : Int)) = false := by simp; omega
        obtain ⟨z, hz⟩ : ∃ z : Int, z = (c0.toNat : Int) := ⟨_, rfl⟩
        rw [← hz] at hcell
        have hzb : 0 ≤ z ∧ z < 256 := by have := c0.toNat_lt; omega
        have hclr := u8_clear z hzb.1 hzb.2
        have hor : bits BinOp.or IntKind.i64 acc (z % 128 * 2097152) = acc + z % 128 * 2097152 := i64_or 21 acc (z % 128 * 2097152) (by omega) (by omega) (by omega) (by omega) (by omega) (by omega)
        have HC := hid (And.intro hc hz)
        clear hc hz hm hil
        by_cases hz1 : z < 128
        · by_cases hz0 : z = 0
          · have hd : (z == 0) = true := by simp [hz0]
            have HE := hid (show readL l = (0, 0, 21) by rw [← HX.out, rd, HC.out.1]; simp only []; rw [if_pos (by have := HC.out.2; omega), if_pos ⟨by omega, by have := HC.out.2; omega⟩])
            clear hz0
            go_wp2
            go_ret3
            exact ⟨by unfold rdTuple; rw [HE.out] <;> rfl, rfl⟩
          · have hd : (z == 0) = false := by simp [hz0]
            have HE := hid (show readL l = (acc + z % 128 * 2097152, 4, 0) by rw [← HX.out, rd, HC.out.1]; simp only []; rw [if_pos (by have := HC.out.2; omega), if_neg (by have := HC.out.2; omega)]; simp; have := HC.out.2; omega)
            go_wp2
            go_ret3
            exact ⟨by unfold rdTuple; rw [HE.out] <;> rfl, rfl⟩
        · have HE := hid (show rd l 0 4 (acc + z % 128 * 2097152) = readL l by rw [← HX.out, rd_more HC.out.1 (by have := HC.out.2; omega)]; congr 1; have := HC.out.2; simp; omega)
          have hdz : decide (z < 128) = false := by simp; omega
          go_wp2
          go_roundg 0
          case measure => omega
          case rel => exact ⟨4, acc + z % 128 * 2097152, rfl, by omega, rfl, rfl, by simp; omega, HE.out, rfl⟩
    · have HE := hid (show readL l = (0, 0, 21) by rw [← HX.out, rd])
      clear hil ha
      go_wp2
      go_ret3
      exact ⟨by unfold rdTuple; rw [HE.out] <;> rfl, rfl⟩
end Go.Proofs.Ytepihchlfbdnjaa
