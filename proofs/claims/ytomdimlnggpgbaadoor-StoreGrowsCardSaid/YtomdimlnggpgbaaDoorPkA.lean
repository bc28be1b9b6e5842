/- Numbers as bytes, seven bits each, the least first: what is packed is taken again, and only that. Plain facts. -/
import Derived.Test.YtomdimlnggpgbaaDoorSxF
set_option linter.unusedSimpArgs false
set_option linter.unusedVariables false
set_option linter.constructorNameAsVariable false
namespace Go.Pk
open Go Go.Sx

/-- A number's bytes. -/
def numB (x : Nat) : List Int := if x < 128 then [(x : Int)] else ((x % 128 + 128 : Nat) : Int) :: numB (x / 128)
/-- The number that bytes begin with, from the n-th byte on, and how many bytes it has. -/
def numGo : List Int → Nat → Nat → Option (Nat × Nat)
  | [], _, _ => none
  | c :: l, n, x => if (n = 9 ∧ 1 < c) ∨ 9 < n then none else if c < 128 then (if c = 0 ∧ 0 < n then none else some (x + c.toNat * 128 ^ n, n + 1)) else numGo l (n + 1) (x + (c.toNat % 128) * 128 ^ n)
def numAt (l : List Int) : Option (Nat × Nat) := numGo l 0 0
theorem numB_low {x : Nat} (h : x < 128) : numB x = [(x : Int)] := by rw [numB, if_pos h]
theorem numB_high {x : Nat} (h : ¬ x < 128) : numB x = ((x % 128 + 128 : Nat) : Int) :: numB (x / 128) := by rw [numB, if_neg h]
theorem numB_byte : ∀ (x : Nat), ∀ b ∈ numB x, 0 ≤ b ∧ b < 256 := by
  intro x
  induction x using Nat.strongRecOn with
  | _ x ih =>
    intro b hb
    by_cases h : x < 128
    · rw [numB_low h, List.mem_singleton] at hb
      omega
    · rw [numB_high h] at hb
      rcases List.mem_cons.1 hb with rfl | hb
      · omega
      · exact ih (x / 128) (by omega) b hb
theorem numB_pos (x : Nat) : 0 < (numB x).length := by
  by_cases h : x < 128
  · rw [numB_low h]; exact Nat.one_pos
  · rw [numB_high h]; exact Nat.succ_pos _
theorem numB_len : ∀ (k x : Nat), x < 128 ^ (k + 1) → (numB x).length ≤ k + 1
  | 0, x, h => by rw [numB_low (by simpa using h)]; exact Nat.le_refl _
  | k + 1, x, h => by
    by_cases h1 : x < 128
    · rw [numB_low h1]; simp
    · rw [numB_high h1, List.length_cons]
      have := numB_len k (x / 128) (by
        rw [Nat.pow_succ] at h
        exact Nat.div_lt_of_lt_mul (by omega))
      omega
/-- A number's last byte is no nought, where it has more than one. -/
theorem numB_last : ∀ (x : Nat), 0 < x → ∀ b, (numB x).getLast? = some b → b ≠ 0 := by
  intro x
  induction x using Nat.strongRecOn with
  | _ x ih =>
    intro h0 b hb
    by_cases h : x < 128
    · rw [numB_low h] at hb
      have hb : (x : Int) = b := by simpa using hb
      omega
    · rw [numB_high h] at hb
      have hne : numB (x / 128) ≠ [] := fun e => by
        have := numB_pos (x / 128)
        rw [e] at this; cases this
      rw [List.getLast?_cons_of_ne_nil hne] at hb
      exact ih (x / 128) (by omega) (by omega) b hb
theorem pow63 : (128 : Nat) ^ 9 = 9223372036854775808 := by decide
/-- What is packed is taken again. -/
theorem numGo_enc (t : List Int) : ∀ (x n y : Nat), (0 < n → 0 < x) → n ≤ 9 → x * 128 ^ n < 18446744073709551616 → numGo (numB x ++ t) n y = some (y + x * 128 ^ n, n + (numB x).length) := by
  intro x
  induction x using Nat.strongRecOn with
  | _ x ih =>
    intro n y hx hn hlt
    have h9 : n = 9 → x ≤ 1 := fun e => by
      subst e
      rw [pow63] at hlt; omega
    by_cases h : x < 128
    · rw [numB_low h]
      show (if (n = 9 ∧ 1 < (x : Int)) ∨ 9 < n then none else _) = _
      rw [if_neg (by omega), if_pos (by omega), if_neg (by omega), Int.toNat_natCast]
      rfl
    · rw [numB_high h]
      have hc : (((x % 128 + 128 : Nat) : Int)).toNat % 128 = x % 128 := by rw [Int.toNat_natCast]; omega
      show (if (n = 9 ∧ 1 < ((x % 128 + 128 : Nat) : Int)) ∨ 9 < n then none else _) = _
      have hn9 : n ≠ 9 := fun e => by have := h9 e; omega
      rw [if_neg (by omega), if_neg (by omega), hc]
      have hmul : x / 128 * 128 ^ (n + 1) + x % 128 * 128 ^ n = x * 128 ^ n := by
        rw [Nat.pow_succ, ← Nat.mul_assoc, Nat.mul_right_comm, ← Nat.add_mul]
        congr 1
        omega
      show numGo (numB (x / 128) ++ t) (n + 1) (y + x % 128 * 128 ^ n) = _
      rw [ih (x / 128) (by omega) (n + 1) _ (fun _ => by omega) (by omega) (by omega), List.length_cons]
      congr 1
      rw [Prod.mk.injEq]
      omega
theorem numAt_enc {x : Nat} (h : x < 18446744073709551616) (t : List Int) : numAt (numB x ++ t) = some (x, (numB x).length) := by
  have := numGo_enc t x 0 0 (fun h => absurd h (by omega)) (by omega) (by simpa using h)
  unfold numAt
  rw [this]
  simp
/-- What is taken is what is packed. -/
theorem numGo_dec : ∀ (l : List Int) (n y z m : Nat), (∀ b ∈ l, 0 ≤ b ∧ b < 256) → numGo l n y = some (z, m) → ∃ x, z = y + x * 128 ^ n ∧ n < m ∧ m - n ≤ l.length ∧ l.take (m - n) = numB x ∧ (0 < n → 0 < x) ∧ x * 128 ^ n < 18446744073709551616
  | [], _, _, _, _, _, h => by cases h
  | c :: l, n, y, z, m, hb, h => by
    have hc := hb c (List.mem_cons_self ..)
    have hl : ∀ b ∈ l, 0 ≤ b ∧ b < 256 := fun b h => hb b (List.mem_cons_of_mem _ h)
    have h : (if (n = 9 ∧ 1 < c) ∨ 9 < n then none else if c < 128 then (if c = 0 ∧ 0 < n then none else some (y + c.toNat * 128 ^ n, n + 1)) else numGo l (n + 1) (y + (c.toNat % 128) * 128 ^ n)) = some (z, m) := h
    split at h
    · cases h
    · rename_i h9
      have hpow : 128 ^ n ≤ 9223372036854775808 := by
        rw [← pow63]
        exact Nat.pow_le_pow_right (by decide) (by omega)
      have hsmall : n < 9 → 128 ^ n ≤ 72057594037927936 := fun hn => by
        have : (128 : Nat) ^ 8 = 72057594037927936 := by decide
        rw [← this]
        exact Nat.pow_le_pow_right (by decide) (by omega)
      split at h
      · rename_i h128
        split at h
        · cases h
        · rename_i h0
          simp only [Option.some.injEq, Prod.mk.injEq] at h
          obtain ⟨h1, h2⟩ := h
          subst h1 h2
          refine ⟨c.toNat, rfl, by omega, by rw [List.length_cons]; omega, ?_, by omega, ?_⟩
          · rw [show n + 1 - n = 1 by omega, numB_low (by omega)]
            show [c] = _
            rw [Int.toNat_of_nonneg hc.1]
          · rcases Nat.lt_or_ge n 9 with hn | hn
            · have := hsmall hn
              calc c.toNat * 128 ^ n ≤ 127 * 72057594037927936 := Nat.mul_le_mul (by omega) this
                _ < _ := by decide
            · have : c.toNat ≤ 1 := by omega
              calc c.toNat * 128 ^ n ≤ 1 * 9223372036854775808 := Nat.mul_le_mul this hpow
                _ < _ := by decide
      · rename_i h128
        obtain ⟨x, e1, e2, e3, e4, e5, e6⟩ := numGo_dec l (n + 1) _ z m hl h
        have hx := e5 (by omega)
        have hdiv : (x * 128 + c.toNat % 128) / 128 = x := by omega
        have hmod : (x * 128 + c.toNat % 128) % 128 = c.toNat % 128 := by omega
        have hmul : (x * 128 + c.toNat % 128) * 128 ^ n = x * 128 ^ (n + 1) + (c.toNat % 128) * 128 ^ n := by
          rw [Nat.add_mul, Nat.pow_succ, Nat.mul_assoc x 128, Nat.mul_comm 128]
        refine ⟨x * 128 + c.toNat % 128, by rw [e1, hmul]; omega, by omega, by rw [List.length_cons]; omega, ?_, fun _ => by omega, ?_⟩
        · rw [show m - n = (m - (n + 1)) + 1 by omega, List.take_succ_cons, e4, numB_high (x := x * 128 + c.toNat % 128) (by omega), hdiv, hmod]
          congr 1
          omega
        · rw [hmul]
          have h127 : c.toNat % 128 * 128 ^ n < 128 ^ (n + 1) := by
            rw [Nat.pow_succ, Nat.mul_comm (128 ^ n)]
            exact Nat.mul_lt_mul_of_pos_right (by omega) (Nat.pow_pos (by decide))
          -- a multiple of it that is below is below by it
          have hn9 : n < 9 := by omega
          have hdvd : ∃ q, 18446744073709551616 = q * 128 ^ (n + 1) := by
            refine ⟨2 ^ (64 - 7 * (n + 1)), ?_⟩
            have : (18446744073709551616 : Nat) = 2 ^ 64 := by decide
            rw [this, show (128 : Nat) = 2 ^ 7 by decide, ← Nat.pow_mul, ← Nat.pow_add]
            congr 1; omega
          obtain ⟨q, hq⟩ := hdvd
          rw [hq] at e6 ⊢
          have hxq : x < q := Nat.lt_of_mul_lt_mul_right e6
          calc x * 128 ^ (n + 1) + c.toNat % 128 * 128 ^ n < x * 128 ^ (n + 1) + 128 ^ (n + 1) := by omega
            _ = (x + 1) * 128 ^ (n + 1) := by rw [Nat.succ_mul]
            _ ≤ q * 128 ^ (n + 1) := Nat.mul_le_mul_right _ hxq
theorem numAt_dec {l : List Int} {x m : Nat} (hb : ∀ b ∈ l, 0 ≤ b ∧ b < 256) (h : numAt l = some (x, m)) : 0 < m ∧ m ≤ l.length ∧ l.take m = numB x ∧ x < 18446744073709551616 := by
  obtain ⟨z, e1, e2, e3, e4, _, e6⟩ := numGo_dec l 0 0 x m hb h
  have ez : x = z := by simpa using e1
  subst ez
  exact ⟨e2, by simpa using e3, by simpa using e4, by simpa using e6⟩
end Go.Pk
