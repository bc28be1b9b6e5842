/- Layer 17: plain laws of a group behind an op that may be: its owner a member, members and those that are gone apart, an epoch that doesn't fall. No program in sight. -/
import Derived.Test.YtngboefkhfldgaaGrp4
import Derived.IntWalk
set_option linter.unusedSimpArgs false
set_option linter.unusedVariables false
set_option linter.constructorNameAsVariable false
namespace Go.Proofs.Ytngboefkhfldgaa
open Go.RowKit Go.Flow

structure Sound17 (g : Grp) : Prop where
  lo : 0 ≤ g.epoch
  hi : g.epoch ≤ 255
  apart : ∀ k, k < 6 → (g.mem k && g.gone k) = false
  own : (g.owner = 0 ∧ ∀ k, k < 6 → g.gone k = false) ∨ at6 g.mem g.owner = true

theorem wrap_small {x : Int} (h0 : 0 ≤ x) (h : x ≤ 255) : wrap64 (x + 1) = x + 1 := by
  exact IntWalk.wrap64_in (x + 1) (by omega)

theorem isW_toNat {n : Int} (h : isW n = true) : (n - 1).toNat < 6 ∧ n = ((n - 1).toNat : Int) + 1 := by
  simp [isW] at h; omega

/-- What an op that may be is. -/
theorem may_parts {g : Grp} {n op m : Int} (h : mayOf g n op m = 0) :
    isW n = true ∧ formed op m = true ∧ stateOf g n op m = true ∧ (op = 5 ∨ g.epoch < 255) := by
  unfold mayOf at h
  split at h
  · cases h
  · split at h
    · cases h
    · split at h
      · cases h
      · rename_i h1 h2 h3
        have h1' : (isW n && formed op m) = true := by simpa using h1
        rw [Bool.and_eq_true] at h1'
        have h2' : stateOf g n op m = true := by simpa using h2
        exact ⟨h1'.1, h1'.2, h2', by omega⟩

theorem formed_cases {op m : Int} (h : formed op m = true) : ((op = 1 ∨ op = 4) ∧ m = 0) ∨ ((op = 2 ∨ op = 3 ∨ op = 5) ∧ isW m = true) := by
  unfold formed at h
  split at h
  · rename_i ho; exact Or.inl ⟨ho, by simpa using h⟩
  · split at h
    · rename_i ho; exact Or.inr ⟨ho, h⟩
    · cases h

theorem keep_step {g : Grp} {n op m cut : Int} (J : Sound17 g) (h : mayOf g n op m = 0) :
    Sound17 (behind g n op m cut) ∧ at6 (behind g n op m cut).mem (behind g n op m cut).owner = true ∧ g.epoch ≤ (behind g n op m cut).epoch ∧
    (∀ k, k < 6 → ((behind g n op m cut).mem k && (behind g n op m cut).gone k) = false) ∧
    (∀ k, k < 6 → g.gone k = true → (behind g n op m cut).gone k = true ∧ (behind g n op m cut).cut k = g.cut k) := by
  obtain ⟨hn, hf, hs, he⟩ := may_parts h
  rw [behind_eq hn hf]
  obtain ⟨lo, hi, ap, ow⟩ := J
  have ew : g.epoch < 255 → wrap64 (g.epoch + 1) = g.epoch + 1 := fun h => wrap_small lo hi
  obtain ⟨n1, n2⟩ := isW_toNat hn
  unfold stateOf at hs
  rcases formed_cases hf with ⟨ho | ho, hm⟩ | ⟨ho | ho | ho, hm⟩
  · subst ho
    have hs : g.owner = 0 := by simpa using hs
    have ep : g.epoch < 255 := by omega
    have ng : ∀ k, k < 6 → g.gone k = false := by
      rcases ow with ⟨_, h⟩ | h
      · exact h
      · simp [at6, isW, hs] at h
    have e : afterOp g n 1 m cut = { g with seen := wrap64 (g.seen + 1), epoch := g.epoch + 1, owner := n, mem := upd g.mem (n - 1).toNat true } := by simp [afterOp, ew ep]
    rw [e]
    have om : at6 (upd g.mem (n - 1).toNat true) n = true := by simp [at6, hn, upd]
    refine ⟨⟨by simp; omega, by simp; omega, fun k hk => by simp [ng k hk], Or.inr om⟩, om, by simp; omega, fun k hk => by simp [ng k hk], fun k hk hg => by rw [ng k hk] at hg; cases hg⟩
  · subst ho
    have ep : g.epoch < 255 := by omega
    have hs : g.owner = n := by simpa using hs
    have e : afterOp g n 4 m cut = { g with seen := wrap64 (g.seen + 1), epoch := g.epoch + 1 } := by simp [afterOp, ew ep]
    rw [e]
    have om : at6 g.mem g.owner = true := by
      rcases ow with ⟨h, _⟩ | h
      · omega
      · exact h
    exact ⟨⟨by simp; omega, by simp; omega, ap, Or.inr om⟩, om, by simp; omega, ap, fun k hk hg => ⟨hg, rfl⟩⟩
  all_goals
    obtain ⟨m1, m2⟩ := isW_toNat hm
    subst ho
  · have ep : g.epoch < 255 := by omega
    simp only [show ¬ ((2 : Int) = 1) by decide, if_false, ne_eq, ite_not, if_true] at hs
    have hs0 : g.owner = n := by
      rcases Classical.em (g.owner = n) with h | h
      · exact h
      · simp [h] at hs
    simp only [hs0, if_true, Bool.and_eq_true, Bool.not_eq_true'] at hs
    have e : afterOp g n 2 m cut = { g with seen := wrap64 (g.seen + 1), epoch := g.epoch + 1, mem := upd g.mem (m - 1).toNat true } := by simp [afterOp, ew ep]
    rw [e]
    have om : at6 g.mem g.owner = true := by
      rcases ow with ⟨h, _⟩ | h
      · omega
      · exact h
    have om' : at6 (upd g.mem (m - 1).toNat true) g.owner = true := by
      simp only [at6, Bool.and_eq_true, upd] at om ⊢
      exact ⟨om.1, by split <;> first | rfl | exact om.2⟩
    have gm : g.gone (m - 1).toNat = false := by have := hs.2; simp only [at6, hm, Bool.true_and] at this; exact this
    have ap' : ∀ k, k < 6 → (upd g.mem (m - 1).toNat true k && g.gone k) = false := fun k hk => by
      unfold upd
      split
      · rename_i hk'; subst hk'; rw [gm]; rfl
      · exact ap k hk
    exact ⟨⟨by simp; omega, by simp; omega, ap', Or.inr om'⟩, om', by simp; omega, ap', fun k hk hg => ⟨hg, rfl⟩⟩
  · have ep : g.epoch < 255 := by omega
    simp only [show ¬ ((3 : Int) = 1) by decide, show ¬ ((3 : Int) = 2) by decide, if_false, ne_eq, ite_not, if_true, true_or] at hs
    have hs0 : g.owner = n := by
      rcases Classical.em (g.owner = n) with h | h
      · exact h
      · simp [h] at hs
    simp only [hs0, if_true, Bool.and_eq_true, decide_eq_true_eq] at hs
    have e : afterOp g n 3 m cut = { g with seen := wrap64 (g.seen + 1), epoch := g.epoch + 1, mem := upd g.mem (m - 1).toNat false, gone := upd g.gone (m - 1).toNat true, cut := upd g.cut (m - 1).toNat cut } := by simp [afterOp, ew ep]
    rw [e]
    have om : at6 g.mem g.owner = true := by
      rcases ow with ⟨h, _⟩ | h
      · omega
      · exact h
    have mm : g.mem (m - 1).toNat = true := by have := hs.1; simp only [at6, hm, Bool.true_and] at this; exact this
    have gm : g.gone (m - 1).toNat = false := by have := ap _ m1; rw [mm, Bool.true_and] at this; exact this
    have hne : (g.owner - 1).toNat ≠ (m - 1).toNat := by
      have : isW g.owner = true := by rw [hs0]; exact hn
      obtain ⟨_, o2⟩ := isW_toNat this
      omega
    have om' : at6 (upd g.mem (m - 1).toNat false) g.owner = true := by
      simp only [at6, Bool.and_eq_true, upd] at om ⊢
      exact ⟨om.1, by rw [if_neg hne]; exact om.2⟩
    have ap' : ∀ k, k < 6 → (upd g.mem (m - 1).toNat false k && upd g.gone (m - 1).toNat true k) = false := fun k hk => by
      unfold upd
      split
      · rfl
      · exact ap k hk
    refine ⟨⟨by simp; omega, by simp; omega, ap', Or.inr om'⟩, om', by simp; omega, ap', fun k hk hg => ?_⟩
    have hk' : k ≠ (m - 1).toNat := fun e => by rw [e, gm] at hg; cases hg
    simp only [upd, if_neg hk']; exact ⟨hg, trivial⟩
  · simp only [show ¬ ((5 : Int) = 1) by decide, show ¬ ((5 : Int) = 2) by decide, show ¬ ((5 : Int) = 3) by decide, if_false, ne_eq, ite_not, if_true, false_or] at hs
    have hs0 : g.owner = n := by
      rcases Classical.em (g.owner = n) with h | h
      · exact h
      · simp [h] at hs
    simp only [hs0, if_true, Bool.and_eq_true, decide_eq_true_eq] at hs
    have e : afterOp g n 5 m cut = { g with seen := wrap64 (g.seen + 1), owner := m } := by simp [afterOp]
    rw [e]
    exact ⟨⟨lo, hi, ap, Or.inr hs.1⟩, hs.1, by simp, ap, fun k hk hg => ⟨hg, rfl⟩⟩
end Go.Proofs.Ytngboefkhfldgaa
