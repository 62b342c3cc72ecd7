/- Helps of our own on bits: a byte's top bit cleared, set, masked off; a sum made by '|'. -/
import Derived.WalkKit
set_option linter.all false
namespace Go.Hub
theorem u8_clear_nat : ∀ x : Fin 256, bits .andNot .u8 (x.val : Int) 128 = ((x.val % 128 : Nat) : Int) := by decide +kernel
theorem u8_top_nat : ∀ x : Fin 256, bits .or .u8 (x.val : Int) 128 = ((x.val % 128 + 128 : Nat) : Int) := by decide +kernel
theorem u8_low_nat : ∀ x : Fin 256, bits .and .u8 (x.val : Int) 127 = ((x.val % 128 : Nat) : Int) := by decide +kernel
theorem u8_clear (x : Int) (h0 : 0 ≤ x) (h1 : x < 256) : bits .andNot .u8 x 128 = x % 128 := by
  obtain ⟨n, rfl⟩ := Int.eq_ofNat_of_zero_le h0
  have := u8_clear_nat ⟨n, by omega⟩
  simpa using this
theorem u8_top (x : Int) (h0 : 0 ≤ x) (h1 : x < 256) : bits .or .u8 x 128 = x % 128 + 128 := by
  obtain ⟨n, rfl⟩ := Int.eq_ofNat_of_zero_le h0
  have := u8_top_nat ⟨n, by omega⟩
  simpa using this
theorem u8_low (x : Int) (h0 : 0 ≤ x) (h1 : x < 256) : bits .and .u8 x 127 = x % 128 := by
  obtain ⟨n, rfl⟩ := Int.eq_ofNat_of_zero_le h0
  have := u8_low_nat ⟨n, by omega⟩
  simpa using this
theorem wraps_i64 (n : Int) (h0 : 0 ≤ n) (h1 : n < 2 ^ 63) : IntKind.i64.wrap n = n := by rw [IntKind.wrap_i64]; omega
/-- 'a | b', a below 2^i, b a multiple of it. -/
theorem i64_or (i : Nat) (a b : Int) (ha : 0 ≤ a) (ha1 : a < 2 ^ i) (hb : 0 ≤ b) (hb1 : b % 2 ^ i = 0) (hb2 : b < 2 ^ 62) (hi : a < 2 ^ 62) : bits .or .i64 a b = a + b := by
  have h := bits_join .i64 63 (by decide) wraps_i64 i b a hb hb1 (by omega) ha ha1 (by omega)
  obtain ⟨x, rfl⟩ := Int.eq_ofNat_of_zero_le ha
  obtain ⟨y, rfl⟩ := Int.eq_ofNat_of_zero_le hb
  have e1 := (bits_nat .i64 63 (by decide) wraps_i64 x y (by omega) (by omega)).2
  have e2 := (bits_nat .i64 63 (by decide) wraps_i64 y x (by omega) (by omega)).2
  rw [e1, Nat.or_comm, ← e2, h]
  omega
theorem i64_mask (i : Nat) (hi : i ≤ 63) (a : Int) (ha : 0 ≤ a) (ha1 : a < 2 ^ 63) : bits .and .i64 a (2 ^ i - 1) = a % 2 ^ i := bits_mask .i64 63 (by decide) wraps_i64 i hi a ha ha1
end Go.Hub
