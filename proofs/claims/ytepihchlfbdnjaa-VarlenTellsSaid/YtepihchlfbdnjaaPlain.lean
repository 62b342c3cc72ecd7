/- The plain lengths: how many bytes ('szN'), which ('putL'), what bytes begin with ('readL'). -/
set_option linter.all false
namespace Go.Vl

def szN (n : Int) : Nat := if n < 0 ∨ 268435455 < n then 0 else if n < 128 then 1 else if n < 16384 then 2 else if n < 2097152 then 3 else 4
/-- the i-th byte of a length of s bytes, as a number -/
def byteI (n : Int) (i s : Nat) : Int := n / 128 ^ i % 128 + if i + 1 < s then 128 else 0
def byteN (n : Int) (i s : Nat) : UInt8 := UInt8.ofNat (byteI n i s).toNat
def putL (n : Int) : List UInt8 := (List.range (szN n)).map fun i => byteN n i (szN n)
/-- what is read from place i on, with so much read: the length, its bytes, the error (20: short, 21: no length) -/
def rd (l : List UInt8) : Nat → Nat → Int → Int × Int × Int
  | 0, _, _ => (0, 0, 21)
  | k + 1, i, acc => match l[i]? with
    | none => (0, 0, 20)
    | some c => if c.toNat < 128 then (if 0 < i ∧ c.toNat = 0 then (0, 0, 21) else (acc + (c.toNat % 128 : Nat) * 128 ^ i, i + 1, 0)) else rd l k (i + 1) (acc + (c.toNat % 128 : Nat) * 128 ^ i)
def readL (l : List UInt8) : Int × Int × Int := rd l 4 0 0

theorem byteI_bd (n : Int) (i s : Nat) : 0 ≤ byteI n i s ∧ byteI n i s < 256 := by
  unfold byteI
  have h1 := Int.emod_nonneg (n / 128 ^ i) (show (128 : Int) ≠ 0 by omega)
  have h2 := Int.emod_lt_of_pos (n / 128 ^ i) (show (0 : Int) < 128 by omega)
  split <;> omega
theorem byteN_toNat (n : Int) (i s : Nat) : ((byteN n i s).toNat : Int) = byteI n i s := by
  have := byteI_bd n i s
  unfold byteN
  rw [UInt8.toNat_ofNat']
  omega
theorem putL_len (n : Int) : (putL n).length = szN n := by simp [putL]
theorem szN_le (n : Int) : szN n ≤ 4 := by unfold szN; (repeat' split) <;> omega
theorem putL_at (n : Int) (i : Nat) (h : i < szN n) : (putL n)[i]? = some (byteN n i (szN n)) := by simp [putL, h]
theorem szN_pos (n : Int) (h : 0 ≤ n ∧ n ≤ 268435455) : 1 ≤ szN n := by unfold szN; rw [if_neg (by omega)]; (repeat' split) <;> omega
/-- how the reference tells that a form is not the shortest -/
theorem szN_read (i : Nat) (hi : i < 4) (acc : Int) (c : Nat) (h0 : 0 ≤ acc) (h1 : acc < 128 ^ i) (hc : c < 128) : (szN (acc + (c : Int) * 128 ^ i) = i + 1 ↔ ¬ (0 < i ∧ c = 0)) := by
  match i, hi with
  | 0, _ => simp at h1 ⊢; unfold szN; rw [if_neg (by omega), if_pos (by omega)]
  | 1, _ => simp at h1 ⊢; unfold szN; rw [if_neg (by omega)]; (repeat' split) <;> omega
  | 2, _ => simp at h1 ⊢; unfold szN; rw [if_neg (by omega)]; (repeat' split) <;> omega
  | 3, _ => simp at h1 ⊢; unfold szN; rw [if_neg (by omega)]; (repeat' split) <;> omega
end Go.Vl
