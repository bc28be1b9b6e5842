/- Layer 8: eight bytes of a number, and the number of eight bytes. -/
import Derived.Test.YtomdimlnggpgbaaDoorCelA
set_option linter.unusedSimpArgs false
set_option linter.unusedVariables false
set_option linter.constructorNameAsVariable false
namespace Go.Proofs.YtomdimlnggpgbaaDoor.D
open Go Go.Sx

theorem wrap_u64 {x : Int} (h0 : 0 ≤ x) (h1 : x < 18446744073709551616) : IntKind.u64.wrap x = x := by
  show Int.emod x 18446744073709551616 = x
  exact Int.emod_eq_of_lt h0 h1
theorem bigB_add {n c : Int} (n0 : 0 ≤ n) (n1 : n < 72057594037927936) (c0 : 0 ≤ c) (c1 : c < 256) : bigB n c = n * 256 + c := by
  unfold bigB
  rw [show n * 2 ^ (min (Int.toNat 8) IntKind.u64.bits) = n * 256 from rfl, wrap_u64 (by omega) (by omega), wrap_u64 c0 (by omega)]
  obtain ⟨m, rfl⟩ := Int.eq_ofNat_of_zero_le n0
  obtain ⟨d, rfl⟩ := Int.eq_ofNat_of_zero_le c0
  show IntKind.u64.wrap (((BitVec.ofInt 64 ((m : Int) * 256)) ||| (BitVec.ofInt 64 (d : Int))).toNat : Int) = _
  have e1 : (BitVec.ofInt 64 ((m : Int) * 256)).toNat = m * 256 := by
    rw [show ((m : Int) * 256) = ((m * 256 : Nat) : Int) by omega, BitVec.ofInt_natCast, BitVec.toNat_ofNat]
    exact Nat.mod_eq_of_lt (by omega)
  have e2 : (BitVec.ofInt 64 (d : Int)).toNat = d := by
    rw [BitVec.ofInt_natCast, BitVec.toNat_ofNat]
    exact Nat.mod_eq_of_lt (by omega)
  rw [BitVec.toNat_or, e1, e2]
  have e3 : m * 256 ||| d = m * 256 + d := by
    have := Nat.shiftLeft_add_eq_or_of_lt (i := 8) (b := d) (by omega) m
    rw [Nat.shiftLeft_eq] at this
    exact this.symm
  rw [e3, wrap_u64 (by omega) (by omega)]
  omega
/-- Eight bytes of a number, the greatest first. -/
def be8 (x : Int) : List Int := [x / 72057594037927936 % 256, x / 281474976710656 % 256, x / 1099511627776 % 256, x / 4294967296 % 256, x / 16777216 % 256, x / 65536 % 256, x / 256 % 256, x % 256]
theorem big_eight {a b c d e f g h : Int} (ha : 0 ≤ a ∧ a < 256) (hb : 0 ≤ b ∧ b < 256) (hc : 0 ≤ c ∧ c < 256) (hd : 0 ≤ d ∧ d < 256) (he : 0 ≤ e ∧ e < 256) (hf : 0 ≤ f ∧ f < 256) (hg : 0 ≤ g ∧ g < 256) (hh : 0 ≤ h ∧ h < 256) :
    bigI [a, b, c, d, e, f, g, h] = ((((((a * 256 + b) * 256 + c) * 256 + d) * 256 + e) * 256 + f) * 256 + g) * 256 + h := by
  show bigB (bigB (bigB (bigB (bigB (bigB (bigB (bigB 0 a) b) c) d) e) f) g) h = _
  have e1 : bigB 0 a = a := by rw [bigB_add (by omega) (by omega) ha.1 ha.2]; omega
  rw [e1, bigB_add (n := a) (c := b) ha.1 (by omega) hb.1 hb.2]
  rw [bigB_add (n := a * 256 + b) (c := c) (by omega) (by omega) hc.1 hc.2]
  rw [bigB_add (n := (a * 256 + b) * 256 + c) (c := d) (by omega) (by omega) hd.1 hd.2]
  rw [bigB_add (n := ((a * 256 + b) * 256 + c) * 256 + d) (c := e) (by omega) (by omega) he.1 he.2]
  rw [bigB_add (n := (((a * 256 + b) * 256 + c) * 256 + d) * 256 + e) (c := f) (by omega) (by omega) hf.1 hf.2]
  rw [bigB_add (n := ((((a * 256 + b) * 256 + c) * 256 + d) * 256 + e) * 256 + f) (c := g) (by omega) (by omega) hg.1 hg.2]
  rw [bigB_add (n := (((((a * 256 + b) * 256 + c) * 256 + d) * 256 + e) * 256 + f) * 256 + g) (c := h) (by omega) (by omega) hh.1 hh.2]
theorem big_be8 {x : Int} (h0 : 0 ≤ x) (h1 : x < 18446744073709551616) : bigI (be8 x) = x := by
  unfold be8
  rw [big_eight (by omega) (by omega) (by omega) (by omega) (by omega) (by omega) (by omega) (by omega)]
  omega
end Go.Proofs.YtomdimlnggpgbaaDoor.D
