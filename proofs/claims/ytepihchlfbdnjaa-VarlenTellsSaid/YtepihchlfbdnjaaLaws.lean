/- Plain laws on lengths: what is put comes back, whatever stands behind it; each beginning is short; two lengths have two forms. -/
import Derived.Test.YtepihchlfbdnjaaPlain
set_option linter.all false
namespace Go.Vl

theorem rd_go {l : List UInt8} {i k : Nat} {acc : Int} {c : UInt8} (h : l[i]? = some c) (hc : ¬ c.toNat < 128) : rd l (k + 1) i acc = rd l k (i + 1) (acc + (c.toNat % 128 : Nat) * 128 ^ i) := by
  rw [rd, h]; simp only []; rw [if_neg hc]
theorem rd_end {l : List UInt8} {i k : Nat} {acc : Int} {c : UInt8} (h : l[i]? = some c) (hc : c.toNat < 128) (hz : ¬ (0 < i ∧ c.toNat = 0)) : rd l (k + 1) i acc = (acc + (c.toNat % 128 : Nat) * 128 ^ i, (i : Int) + 1, 0) := by
  rw [rd, h]; simp only []; rw [if_pos hc, if_neg hz]
theorem rd_short {l : List UInt8} {i k : Nat} {acc : Int} (h : l[i]? = none) : rd l (k + 1) i acc = (0, 0, 20) := by rw [rd, h]
theorem byte_go (n : Int) (i s : Nat) (h : i + 1 < s) : ¬ (byteN n i s).toNat < 128 ∧ (((byteN n i s).toNat % 128 : Nat) : Int) = n / 128 ^ i % 128 := by
  have e := byteN_toNat n i s
  have h1 := Int.emod_nonneg (n / 128 ^ i) (show (128 : Int) ≠ 0 by omega)
  have h2 := Int.emod_lt_of_pos (n / 128 ^ i) (show (0 : Int) < 128 by omega)
  unfold byteI at e
  rw [if_pos h] at e
  generalize n / 128 ^ i % 128 = d at *
  omega
theorem byte_end (n : Int) (i : Nat) : (byteN n i (i + 1)).toNat < 128 ∧ ((byteN n i (i + 1)).toNat : Int) = n / 128 ^ i % 128 := by
  have e := byteN_toNat n i (i + 1)
  have h1 := Int.emod_nonneg (n / 128 ^ i) (show (128 : Int) ≠ 0 by omega)
  have h2 := Int.emod_lt_of_pos (n / 128 ^ i) (show (0 : Int) < 128 by omega)
  unfold byteI at e
  rw [if_neg (by omega)] at e
  generalize n / 128 ^ i % 128 = d at *
  omega
/-- l begins with the first s bytes of n -/
def Begins (l : List UInt8) (n : Int) (j s : Nat) : Prop := ∀ i, i < j → l[i]? = some (byteN n i s)
theorem emod_step (n : Int) (j : Nat) (hj : j < 4) : n % 128 ^ (j + 1) = n % 128 ^ j + n / 128 ^ j % 128 * 128 ^ j := by
  have e0 : (128 : Int) ^ 0 = 1 := rfl
  have e1 : (128 : Int) ^ 1 = 128 := rfl
  have e2 : (128 : Int) ^ 2 = 16384 := rfl
  have e3 : (128 : Int) ^ 3 = 2097152 := rfl
  have e4 : (128 : Int) ^ 4 = 268435456 := rfl
  match j, hj with
  | 0, _ => rw [show 0 + 1 = 1 from rfl, e0, e1]; omega
  | 1, _ => rw [show 1 + 1 = 2 from rfl, e1, e2]; omega
  | 2, _ => rw [show 2 + 1 = 3 from rfl, e2, e3]; omega
  | 3, _ => rw [show 3 + 1 = 4 from rfl, e3, e4]; omega
/-- the first j bytes of a length of s > j bytes are walked over -/
theorem rd_walk (l : List UInt8) (n : Int) (s : Nat) (hs : s ≤ 4) : ∀ j, j < s → Begins l n j s → readL l = rd l (4 - j) j (n % 128 ^ j)
  | 0, _, _ => by
    have : n % 128 ^ 0 = 0 := by rw [show (128 : Int) ^ 0 = 1 from rfl]; omega
    rw [this]; rfl
  | j + 1, hj, hb => by
    rw [rd_walk l n s hs j (by omega) (fun i hi => hb i (by omega)), show 4 - j = (4 - (j + 1)) + 1 from by omega]
    have hg := byte_go n j s hj
    rw [rd_go (hb j (by omega)) hg.1, hg.2]
    rw [emod_step n j (by omega)]
theorem read_back (l : List UInt8) (n : Int) (h : 0 ≤ n ∧ n ≤ 268435455) (hb : Begins l n (szN n) (szN n)) : readL l = (n, (szN n : Int), 0) := by
  obtain ⟨s, hs⟩ : ∃ s, szN n = s + 1 := ⟨szN n - 1, by have := szN_pos n h; omega⟩
  have h4 := szN_le n
  rw [hs] at hb h4
  rw [rd_walk l n (s + 1) h4 s (by omega) (fun i hi => hb i (by omega)), show 4 - s = (3 - s) + 1 from by omega, hs]
  have he := byte_end n s
  rw [rd_end (hb s (by omega)) he.1]
  · have hm : (byteN n s (s + 1)).toNat % 128 = (byteN n s (s + 1)).toNat := Nat.mod_eq_of_lt he.1
    rw [hm, he.2]
    have hv : n % 128 ^ s + n / 128 ^ s % 128 * 128 ^ s = n := by
      have hlt : n < 128 ^ (s + 1) := by
        match s, hs with
        | 0, hs => simp; unfold szN at hs; (repeat' split at hs) <;> omega
        | 1, hs => simp; unfold szN at hs; (repeat' split at hs) <;> omega
        | 2, hs => simp; unfold szN at hs; (repeat' split at hs) <;> omega
        | 3, hs => simp; omega
        | s + 4, hs => omega
      have h2 : n % 128 ^ (s + 1) = n := Int.emod_eq_of_lt h.1 hlt
      rw [emod_step n s (by omega)] at h2
      exact h2
    rw [hv]
    simp
  · rintro ⟨hp, hz⟩
    have hz2 : n / 128 ^ s % 128 = 0 := by omega
    match s, hp, hs, hz2 with
    | 1, _, hs, hz2 => simp at hz2; unfold szN at hs; (repeat' split at hs) <;> omega
    | 2, _, hs, hz2 => simp at hz2; unfold szN at hs; (repeat' split at hs) <;> omega
    | 3, _, hs, hz2 => simp at hz2; unfold szN at hs; (repeat' split at hs) <;> omega
    | s + 4, _, hs, _ => omega
theorem read_short (l : List UInt8) (n : Int) (j : Nat) (hj : j < szN n) (hl : l.length = j) (hb : Begins l n j (szN n)) : readL l = (0, 0, 20) := by
  have h4 := szN_le n
  rw [rd_walk l n (szN n) h4 j hj hb, show 4 - j = (3 - j) + 1 from by omega]
  exact rd_short (List.getElem?_eq_none (by omega))
theorem begins_put (n : Int) (l : List UInt8) : Begins (putL n ++ l) n (szN n) (szN n) := fun i hi => by
  rw [List.getElem?_append_left (by rw [putL_len]; exact hi)]
  exact putL_at n i hi
theorem begins_take (n : Int) (j : Nat) (hj : j ≤ szN n) : Begins ((putL n).take j) n j (szN n) := fun i hi => by
  rw [List.getElem?_take, if_pos hi]
  exact putL_at n i (by omega)
theorem put_inj (a b : Int) (ha : 0 ≤ a ∧ a ≤ 268435455) (hb : 0 ≤ b ∧ b ≤ 268435455) (h : putL a = putL b) : a = b := by
  have h1 := read_back (putL a ++ []) a ha (begins_put a [])
  have h2 := read_back (putL b ++ []) b hb (begins_put b [])
  rw [h, h2] at h1
  exact (congrArg Prod.fst h1).symm
theorem szN_mono (a b : Int) (ha : 0 ≤ a) (h : a ≤ b) (hb : b ≤ 268435455) : szN a ≤ szN b := by
  unfold szN; (repeat' split) <;> omega
end Go.Vl
