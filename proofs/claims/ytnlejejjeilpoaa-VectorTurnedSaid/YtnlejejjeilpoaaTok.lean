/- Tokens, compared: what keys.compare and the document's Less answer, as they are told to the executor. Condition: compare's are bytes. -/
import Derived.Test.YtnlejejjeilpoaaCmp
import Derived.Test.YtnlejejjeilpoaaExC
set_option linter.unusedSimpArgs false
set_option linter.unusedVariables false
set_option linter.constructorNameAsVariable false
namespace Go.Proofs.Ytnlejejjeilpoaa
open Go Go.Ex Go.RowKit Go.Flow

/-- The order of the first two that differ. -/
def lex : List Int → List Int → Int
  | x :: xs, y :: ys => if x < y then -1 else if y < x then 1 else lex xs ys
  | _, _ => 0
theorem u8_lt {x y : Int} (hx : 0 ≤ x ∧ x < 256) (hy : 0 ≤ y ∧ y < 256) : (UInt8.ofNat x.toNat < UInt8.ofNat y.toNat) = (x < y) := by
  rw [UInt8.lt_iff_toNat_lt, UInt8.toNat_ofNat_of_lt' (by simp; omega), UInt8.toNat_ofNat_of_lt' (by simp; omega)]
  exact propext (by omega)
theorem cmp_lex : ∀ (xs ys : List Int), xs.length = ys.length → (∀ x ∈ xs, 0 ≤ x ∧ x < 256) → (∀ y ∈ ys, 0 ≤ y ∧ y < 256) → cmpOf xs ys = lex xs ys
  | [], [], _, _, _ => rfl
  | x :: xs, y :: ys, h, hx, hy => by
    have ih := cmp_lex xs ys (by simpa using h) (fun z hz => hx z (by simp [hz])) (fun z hz => hy z (by simp [hz]))
    unfold cmpOf Lib.bytesOf at ih ⊢
    simp only [List.map_cons, Lib.compareBytes, lex, u8_lt (hx x (by simp)) (hy y (by simp)), u8_lt (hy y (by simp)) (hx x (by simp)), ih]
  | [], _ :: _, h, _, _ => by simp at h
  | _ :: _, [], h, _, _ => by simp at h

def tk : List Kd := List.replicate 16 (.int .u8)
/-- The sixteen numbers from j on. -/
def nums (p : Pt) (j : Nat) : List Int := [p.i j, p.i (j + 1), p.i (j + 2), p.i (j + 3), p.i (j + 4), p.i (j + 5), p.i (j + 6), p.i (j + 7), p.i (j + 8), p.i (j + 9), p.i (j + 10), p.i (j + 11), p.i (j + 12), p.i (j + 13), p.i (j + 14), p.i (j + 15)]
def lexF : Pt → Pt := fun p => ⟨fun _ => lex (nums p 0) (nums p 16), fun _ => decide (lex (nums p 0) (nums p 16) < 0)⟩
def bytesN : Pt → Prop := fun p => ∀ j, j < 32 → 0 ≤ p.i j ∧ p.i j < 256
def compareS : Summ := flat 7 38 [.agg tk, .agg tk] [.one (.int .i64)] (some bytesN) lexF
def lessS : Summ := flat 8 40 [.agg tk, .agg tk] [.one .bool] none lexF
theorem nums_bytes {p : Pt} {j : Nat} (h : ∀ k, k < 16 → 0 ≤ p.i (j + k) ∧ p.i (j + k) < 256) : ∀ x ∈ nums p j, 0 ≤ x ∧ x < 256 := by
  intro x hx
  simp only [nums, List.mem_cons, List.not_mem_nil, or_false] at hx
  rcases hx with rfl | rfl | rfl | rfl | rfl | rfl | rfl | rfl | rfl | rfl | rfl | rfl | rfl | rfl | rfl | rfl
  · exact h 0 (by omega)
  all_goals exact h _ (by omega)
theorem compareS_ok : SummOK Try.prog compareS := flat_ok fun p w hN => by
  have hb := hN bytesN rfl
  refine (compare_any (nums p 0) (nums p 16) rfl rfl w).mono fun e w' h => ⟨?_, h.2⟩
  rw [h.1, cmp_lex (nums p 0) (nums p 16) rfl (nums_bytes fun k hk => hb _ (by omega)) (nums_bytes fun k hk => hb _ (by omega))]
  rfl

def refL : TV × Nd × Ev := (.sv (.one (.bool (.and (.or (.not (.eq (.var 0) (.var 16))) (.and (.eq (.var 0) (.var 16)) (.or (.not (.eq (.var 1) (.var 17))) (.and (.eq (.var 1) (.var 17)) (.or (.not (.eq (.var 2) (.var 18))) (.and (.eq (.var 2) (.var 18)) (.or (.not (.eq (.var 3) (.var 19))) (.and (.eq (.var 3) (.var 19)) (.or (.not (.eq (.var 4) (.var 20))) (.and (.eq (.var 4) (.var 20)) (.or (.not (.eq (.var 5) (.var 21))) (.and (.eq (.var 5) (.var 21)) (.or (.not (.eq (.var 6) (.var 22))) (.and (.eq (.var 6) (.var 22)) (.or (.not (.eq (.var 7) (.var 23))) (.and (.eq (.var 7) (.var 23)) (.or (.not (.eq (.var 8) (.var 24))) (.and (.eq (.var 8) (.var 24)) (.or (.not (.eq (.var 9) (.var 25))) (.and (.eq (.var 9) (.var 25)) (.or (.not (.eq (.var 10) (.var 26))) (.and (.eq (.var 10) (.var 26)) (.or (.not (.eq (.var 11) (.var 27))) (.and (.eq (.var 11) (.var 27)) (.or (.not (.eq (.var 12) (.var 28))) (.and (.eq (.var 12) (.var 28)) (.or (.not (.eq (.var 13) (.var 29))) (.and (.eq (.var 13) (.var 29)) (.or (.not (.eq (.var 14) (.var 30))) (.and (.eq (.var 14) (.var 30)) (.not (.eq (.var 15) (.var 31))))))))))))))))))))))))))))))))) (.ite (.not (.eq (.var 0) (.var 16))) (.lt (.var 0) (.var 16)) (.ite (.not (.eq (.var 1) (.var 17))) (.lt (.var 1) (.var 17)) (.ite (.not (.eq (.var 2) (.var 18))) (.lt (.var 2) (.var 18)) (.ite (.not (.eq (.var 3) (.var 19))) (.lt (.var 3) (.var 19)) (.ite (.not (.eq (.var 4) (.var 20))) (.lt (.var 4) (.var 20)) (.ite (.not (.eq (.var 5) (.var 21))) (.lt (.var 5) (.var 21)) (.ite (.not (.eq (.var 6) (.var 22))) (.lt (.var 6) (.var 22)) (.ite (.not (.eq (.var 7) (.var 23))) (.lt (.var 7) (.var 23)) (.ite (.not (.eq (.var 8) (.var 24))) (.lt (.var 8) (.var 24)) (.ite (.not (.eq (.var 9) (.var 25))) (.lt (.var 9) (.var 25)) (.ite (.not (.eq (.var 10) (.var 26))) (.lt (.var 10) (.var 26)) (.ite (.not (.eq (.var 11) (.var 27))) (.lt (.var 11) (.var 27)) (.ite (.not (.eq (.var 12) (.var 28))) (.lt (.var 12) (.var 28)) (.ite (.not (.eq (.var 13) (.var 29))) (.lt (.var 13) (.var 29)) (.ite (.not (.eq (.var 14) (.var 30))) (.lt (.var 14) (.var 30)) (.lt (.var 15) (.var 31)))))))))))))))))))), .tt, .id)
set_option maxRecDepth 100000 in
theorem refL_eq : funE Try.prog [] 20 60 40 [.sv (.agg (kdCVs 0 tk)), .sv (.agg (kdCVs 16 tk))] 32 = some refL := by kernel_rfl
theorem less_step {a b : Int} {xs ys : List Int} {X Y : Prop} {_ : Decidable (¬ a = b)} (h : (X ∧ Y) = (lex xs ys < 0)) : ((¬ a = b ∨ (a = b ∧ X)) ∧ (if ¬ a = b then a < b else Y)) = (lex (a :: xs) (b :: ys) < 0) := by
  by_cases hab : a = b
  · subst hab
    simp only [not_true_eq_false, true_and, false_or, if_false, lex, Int.lt_irrefl]
    exact h
  · simp only [hab, not_false_eq_true, true_or, true_and, if_true, lex]
    by_cases hl : a < b
    · simp [hl]
    · have : b < a := by omega
      simp [hl, this]
theorem less_last {a b : Int} : (¬ a = b ∧ a < b) = (lex [a] [b] < 0) := by
  by_cases hl : a < b
  · have : ¬ a = b := by omega
    simp [lex, hl, this]
  · by_cases h2 : b < a <;> simp [lex, hl, h2]
theorem lessLaw (p : Pt) (w : World) : Nd.holds refL.2.1 ⟨p.i, p.b, w⟩ ∧ refL.1.ev id ⟨p.i, p.b, w⟩ = .bool (decide (lex (nums p 0) (nums p 16) < 0)) := by
  refine ⟨by simp [refL, Nd.holds], ?_⟩
  refine congrArg Value.bool ?_
  rw [Bool.eq_iff_iff, decide_eq_true_eq]
  refine iff_of_eq ?_
  show (bev ⟨p.i, p.b, w⟩ (match refL.1 with | .sv (.one (.bool e)) => e | _ => .tt) = true) = _
  simp only [refL, bT_and, bT_or, bT_not, bT_lt, bT_eq, bT_ite, iev_var]
  exact less_step (less_step (less_step (less_step (less_step (less_step (less_step (less_step (less_step (less_step (less_step (less_step (less_step (less_step (less_step less_last))))))))))))))
theorem lessS_ok : SummOK Try.prog lessS := flat_ok fun p w _ => (funE_sound (fun s hs => by cases hs) refL_eq id ⟨p.i, p.b, w⟩ w (fun _ _ h => h) (lessLaw p w).1).mono fun e w' h => ⟨by rw [h.1]; exact congrArg Ending.returned (lessLaw p w).2, h.2⟩
end Go.Proofs.Ytnlejejjeilpoaa
