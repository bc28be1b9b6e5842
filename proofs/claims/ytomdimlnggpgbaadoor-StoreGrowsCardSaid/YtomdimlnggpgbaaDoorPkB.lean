/- Bits of numbers, as the packing of numbers turns them. Plain facts. -/
import Derived.Test.YtomdimlnggpgbaaDoorPkA
set_option linter.unusedSimpArgs false
set_option linter.unusedVariables false
set_option linter.constructorNameAsVariable false
namespace Go.Pk
open Go Go.Sx

theorem wu64 {x : Int} (h0 : 0 ≤ x) (h1 : x < 18446744073709551616) : IntKind.u64.wrap x = x := by
  show Int.emod x 18446744073709551616 = x
  exact Int.emod_eq_of_lt h0 h1
theorem wu8 (x : Int) : IntKind.u8.wrap x = x % 256 := rfl
theorem bv_nat {w : Nat} {x : Nat} (h : x < 2 ^ w) : (BitVec.ofInt w (x : Int)).toNat = x := by
  rw [BitVec.toNat_ofInt, Int.emod_eq_of_lt (by omega) (by exact_mod_cast h), Int.toNat_natCast]
theorem bits_and {c : Nat} (h : c < 256) : bitsI .and .u8 (c : Int) 127 = ((c % 128 : Nat) : Int) := by
  show IntKind.u8.wrap (((BitVec.ofInt 8 (c : Int) &&& BitVec.ofInt 8 127).toNat : Nat) : Int) = _
  rw [BitVec.toNat_and, bv_nat (by simpa using h), show (BitVec.ofInt 8 127).toNat = 2 ^ 7 - 1 from rfl, Nat.and_two_pow_sub_one_eq_mod, wu8]
  have : c % 2 ^ 7 = c % 128 := rfl
  omega
theorem bits_or {x y : Nat} (hx : x < 18446744073709551616) (hy : y < 18446744073709551616) : bitsI .or .u64 (x : Int) (y : Int) = ((x ||| y : Nat) : Int) := by
  show IntKind.u64.wrap (((BitVec.ofInt 64 (x : Int) ||| BitVec.ofInt 64 (y : Int)).toNat : Nat) : Int) = _
  have hx' : x < 2 ^ 64 := hx
  have hy' : y < 2 ^ 64 := hy
  rw [BitVec.toNat_or, bv_nat hx', bv_nat hy']
  have := Nat.or_lt_two_pow hx' hy'
  exact wu64 (by omega) (by have e : (2 : Nat) ^ 64 = 18446744073709551616 := by decide
                            omega)
theorem or_shift {y a k : Nat} (hy : y < 2 ^ k) : y ||| (a * 2 ^ k) = y + a * 2 ^ k := by
  rw [Nat.or_comm, ← Nat.shiftLeft_eq, ← Nat.shiftLeft_add_eq_or_of_lt hy, Nat.add_comm]
theorem pow7 (k : Nat) : (2 : Nat) ^ (7 * k) = 128 ^ k := by rw [Nat.pow_mul]
/-- A number's next seven bits. -/
theorem next7 {y k c : Nat} (hy : y < 128 ^ k) (hk : k ≤ 9) (hc : c < 256) (h9 : k = 9 → c ≤ 1) :
    bitsI .or .u64 (y : Int) (IntKind.u64.wrap (IntKind.u64.wrap (bitsI .and .u8 (c : Int) 127) * 2 ^ (min (IntKind.i64.wrap (7 * (k : Int))).toNat 64))) = ((y + c % 128 * 128 ^ k : Nat) : Int) ∧ y + c % 128 * 128 ^ k < 18446744073709551616 := by
  have hpow : 128 ^ k ≤ 9223372036854775808 := by
    rw [← pow63]
    exact Nat.pow_le_pow_right (by decide) hk
  have hz : c % 128 * 128 ^ k ≤ 9223372036854775808 := by
    rcases Nat.lt_or_ge k 9 with h | h
    · have h8 : 128 ^ k ≤ 72057594037927936 := by
        have : (128 : Nat) ^ 8 = 72057594037927936 := by decide
        rw [← this]
        exact Nat.pow_le_pow_right (by decide) (by omega)
      calc c % 128 * 128 ^ k ≤ 127 * 72057594037927936 := Nat.mul_le_mul (by omega) h8
        _ ≤ _ := by decide
    · have : c % 128 ≤ 1 := by have := h9 (by omega); omega
      calc c % 128 * 128 ^ k ≤ 1 * 9223372036854775808 := Nat.mul_le_mul this hpow
        _ ≤ _ := by decide
  have e1 : (IntKind.i64.wrap (7 * (k : Int))).toNat = 7 * k := by rw [wrap_i64 (by omega) (by omega)]; omega
  have e2 : min (7 * k) 64 = 7 * k := by omega
  rw [bits_and hc, e1, e2, wu64 (x := ((c % 128 : Nat) : Int)) (by omega) (by omega)]
  have e3 : ((c % 128 : Nat) : Int) * 2 ^ (7 * k) = ((c % 128 * 128 ^ k : Nat) : Int) := by
    rw [← pow7]; push_cast; rfl
  rw [e3, wu64 (by omega) (by omega), bits_or (by omega) (by omega), ← pow7, or_shift (by rw [pow7]; exact hy)]
  rw [pow7]
  exact ⟨rfl, by omega⟩
set_option maxRecDepth 20000 in
theorem or128 : ∀ v : Fin 256, v.val ||| 128 = v.val % 128 + 128 := by decide
/-- A number's byte that others follow. -/
theorem more7 {x : Nat} : bitsI .or .u8 (IntKind.u8.wrap (x : Int)) 128 = ((x % 128 + 128 : Nat) : Int) := by
  have e : IntKind.u8.wrap (x : Int) = ((x % 256 : Nat) : Int) := by rw [wu8]; omega
  rw [e]
  show IntKind.u8.wrap (((BitVec.ofInt 8 ((x % 256 : Nat) : Int) ||| BitVec.ofInt 8 128).toNat : Nat) : Int) = _
  rw [BitVec.toNat_or, bv_nat (w := 8) (by have e : (2 : Nat) ^ 8 = 256 := by decide
                                           omega), show (BitVec.ofInt 8 128).toNat = 128 from rfl, or128 ⟨x % 256, Nat.mod_lt _ (by decide)⟩, wu8]
  show (((x % 256 % 128 + 128 : Nat)) : Int) % 256 = _
  omega
theorem shr7 {x : Nat} : ((x : Int)).fdiv (2 ^ (7 : Int).toNat) = ((x / 128 : Nat) : Int) := by
  rw [Int.fdiv_eq_ediv_of_nonneg _ (by decide)]
  rfl
end Go.Pk
