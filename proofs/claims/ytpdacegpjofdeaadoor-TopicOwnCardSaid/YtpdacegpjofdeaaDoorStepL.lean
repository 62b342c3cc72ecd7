/- Plain law: the document's step is the model's own decoding. -/
import Derived.Test.YtpdacegpjofdeaaDoorUtf
import Derived.WalkKit
set_option linter.all false
namespace Go.Hub
open Go.Lib Go.RowKit

/-- the first k bytes' bits, the first byte's below m -/
def ac (l : List UInt8) (m : Nat) : Nat → Nat
  | 0 => 0
  | 1 => (l.getD 0 0).toNat % m
  | k + 2 => ac l m (k + 1) * 64 + (l.getD (k + 1) 0).toNat % 64
theorem ac_one (l : List UInt8) (m : Nat) : ac l m 1 = (l.getD 0 0).toNat % m := rfl
theorem ac_succ (l : List UInt8) (m k : Nat) (h : 1 ≤ k) : ac l m (k + 1) = ac l m k * 64 + (l.getD k 0).toNat % 64 := by
  obtain ⟨j, rfl⟩ : ∃ j, k = j + 1 := ⟨k - 1, by omega⟩
  rfl
/-- a first byte's kind: how many bytes, which of its bits, the least rune -/
def Cls (b0 n m least : Nat) : Prop := (192 ≤ b0 ∧ b0 < 224 ∧ n = 2 ∧ m = 32 ∧ least = 128) ∨ (224 ≤ b0 ∧ b0 < 240 ∧ n = 3 ∧ m = 16 ∧ least = 2048) ∨ (240 ≤ b0 ∧ b0 < 248 ∧ n = 4 ∧ m = 8 ∧ least = 65536)
theorem ac_bd {l : List UInt8} {n m least : Nat} (h : Cls (l.getD 0 0).toNat n m least) (k : Nat) (h1 : 1 ≤ k) (h2 : k ≤ n) : ac l m k ≤ 2097151 ∧ (k < n → ac l m k ≤ 32767) := by
  have e1 : ac l m 1 = (l.getD 0 0).toNat % m := rfl
  have e2 : ac l m 2 = ac l m 1 * 64 + (l.getD 1 0).toNat % 64 := rfl
  have e3 : ac l m 3 = ac l m 2 * 64 + (l.getD 2 0).toNat % 64 := rfl
  have e4 : ac l m 4 = ac l m 3 * 64 + (l.getD 3 0).toNat % 64 := rfl
  rcases h with ⟨_, _, rfl, rfl, _⟩ | ⟨_, _, rfl, rfl, _⟩ | ⟨_, _, rfl, rfl, _⟩
  · rcases (show k = 1 ∨ k = 2 by omega) with rfl | rfl <;> omega
  · rcases (show k = 1 ∨ k = 2 ∨ k = 3 by omega) with rfl | rfl | rfl <;> omega
  · rcases (show k = 1 ∨ k = 2 ∨ k = 3 ∨ k = 4 by omega) with rfl | rfl | rfl | rfl <;> omega
/-- what step tells -/
def stepV (l : List UInt8) : Value := .tuple #[.int .i32 ((if badL l then 0 else (decodeL l).1 : Nat) : Int), .int .i64 ((decodeL l).2 : Int), .bool (!badL l)]
theorem stepV_bad {l : List UInt8} (h : decodeL l = (65533, 1)) : stepV l = .tuple #[.int .i32 0, .int .i64 1, .bool false] := by
  unfold stepV badL; rw [h]; rfl
theorem stepV_ok {l : List UInt8} {r n : Nat} (h : decodeL l = (r, n)) (hn : ¬ (r = 65533 ∧ n = 1)) : stepV l = .tuple #[.int .i32 r, .int .i64 n, .bool true] := by
  have hb : badL l = false := by
    unfold badL
    rw [h]
    simp
    intro h1 h2
    exact hn ⟨h1, h2⟩
  unfold stepV
  rw [hb, h]
  rfl
theorem dec_ascii {l : List UInt8} (h : (l.getD 0 0).toNat < 128) : decodeL l = ((l.getD 0 0).toNat, 1) := by
  rw [decodeL_N]; unfold decodeN; rw [if_pos h]
theorem dec_none {l : List UInt8} (h1 : 128 ≤ (l.getD 0 0).toNat) (h2 : (l.getD 0 0).toNat < 192 ∨ 248 ≤ (l.getD 0 0).toNat) : decodeL l = (65533, 1) := by
  have := (l.getD 0 0).toNat_lt
  rw [decodeL_N]; unfold decodeN
  rw [if_neg (by omega), if_neg (by omega), if_neg (by omega), if_neg (by omega)]
theorem dec_short {l : List UInt8} {n m least : Nat} (h : Cls (l.getD 0 0).toNat n m least) (hl : l.length < n) : decodeL l = (65533, 1) := by
  rw [decodeL_N]; unfold decodeN
  rcases h with ⟨_, _, rfl, rfl, _⟩ | ⟨_, _, rfl, rfl, _⟩ | ⟨_, _, rfl, rfl, _⟩
  · rw [if_neg (by omega), if_neg (by omega), if_neg (by omega), if_neg (by omega)]
  · rw [if_neg (by omega), if_neg (by omega), if_neg (by omega), if_neg (by omega)]
  · rw [if_neg (by omega), if_neg (by omega), if_neg (by omega), if_neg (by omega)]
theorem dec_broken {l : List UInt8} {n m least k : Nat} (h : Cls (l.getD 0 0).toNat n m least) (h1 : 1 ≤ k) (h2 : k < n) (hb : (l.getD k 0).toNat / 64 ≠ 2) : decodeL l = (65533, 1) := by
  rw [decodeL_N]; unfold decodeN
  rcases h with ⟨_, _, rfl, rfl, _⟩ | ⟨_, _, rfl, rfl, _⟩ | ⟨_, _, rfl, rfl, _⟩
  · rcases (show k = 1 by omega) with rfl
    rw [if_neg (by omega), if_neg (by omega), if_neg (by omega), if_neg (by omega)]
  · rcases (show k = 1 ∨ k = 2 by omega) with rfl | rfl <;> rw [if_neg (by omega), if_neg (by omega), if_neg (by omega), if_neg (by omega)]
  · rcases (show k = 1 ∨ k = 2 ∨ k = 3 by omega) with rfl | rfl | rfl <;> rw [if_neg (by omega), if_neg (by omega), if_neg (by omega), if_neg (by omega)]
theorem dec_whole {l : List UInt8} {n m least : Nat} (h : Cls (l.getD 0 0).toNat n m least) (hl : n ≤ l.length) (hc : ∀ k, 1 ≤ k → k < n → (l.getD k 0).toNat / 64 = 2) :
    decodeL l = if least ≤ ac l m n ∧ ac l m n ≤ 1114111 ∧ ¬ (55296 ≤ ac l m n ∧ ac l m n < 57344) then (ac l m n, n) else (65533, 1) := by
  have e1 : ac l m 1 = (l.getD 0 0).toNat % m := rfl
  have e2 : ac l m 2 = ac l m 1 * 64 + (l.getD 1 0).toNat % 64 := rfl
  have e3 : ac l m 3 = ac l m 2 * 64 + (l.getD 2 0).toNat % 64 := rfl
  have e4 : ac l m 4 = ac l m 3 * 64 + (l.getD 3 0).toNat % 64 := rfl
  have c1 := hc 1 (by omega)
  have c2 := hc 2 (by omega)
  have c3 := hc 3 (by omega)
  rw [decodeL_N]; unfold decodeN
  rcases h with ⟨_, _, rfl, rfl, rfl⟩ | ⟨_, _, rfl, rfl, rfl⟩ | ⟨_, _, rfl, rfl, rfl⟩
  · have c1 := c1 (by omega)
    rw [if_neg (by omega), if_pos (by omega)]
    split
    · rw [if_pos (by omega)]; exact Prod.ext (by dsimp only; omega) rfl
    · rw [if_neg (by omega)]
  · have c1 := c1 (by omega)
    have c2 := c2 (by omega)
    rw [if_neg (by omega), if_neg (by omega), if_pos (by omega)]
    split
    · rw [if_pos (by omega)]; exact Prod.ext (by dsimp only; omega) rfl
    · rw [if_neg (by omega)]
  · have c1 := c1 (by omega)
    have c2 := c2 (by omega)
    have c3 := c3 (by omega)
    rw [if_neg (by omega), if_neg (by omega), if_neg (by omega), if_pos (by omega)]
    split
    · rw [if_pos (by omega)]; exact Prod.ext (by dsimp only; omega) rfl
    · rw [if_neg (by omega)]
/-! ### bits -/
theorem u8_m5 : ∀ x : Fin 256, bits .and .u8 (x.val : Int) 31 = ((x.val % 32 : Nat) : Int) := by decide +kernel
theorem u8_m4 : ∀ x : Fin 256, bits .and .u8 (x.val : Int) 15 = ((x.val % 16 : Nat) : Int) := by decide +kernel
theorem u8_m3 : ∀ x : Fin 256, bits .and .u8 (x.val : Int) 7 = ((x.val % 8 : Nat) : Int) := by decide +kernel
theorem u8_m6 : ∀ x : Fin 256, bits .and .u8 (x.val : Int) 63 = ((x.val % 64 : Nat) : Int) := by decide +kernel
theorem u8_hi : ∀ x : Fin 256, bits .and .u8 (x.val : Int) 192 = ((x.val / 64 * 64 : Nat) : Int) := by decide +kernel
theorem wraps_i32 (n : Int) (h0 : 0 ≤ n) (h1 : n < 2 ^ 31) : IntKind.i32.wrap n = n := by rw [IntKind.wrap_i32]; omega
theorem i32_or (i : Nat) (a b : Int) (ha : 0 ≤ a) (ha1 : a < 2 ^ i) (hb : 0 ≤ b) (hb1 : b % 2 ^ i = 0) (hb2 : b < 2 ^ 30) (hi : a < 2 ^ 30) : bits .or .i32 b a = b + a :=
  bits_join .i32 31 (by decide) wraps_i32 i b a hb hb1 (by omega) ha ha1 (by omega)
end Go.Hub
