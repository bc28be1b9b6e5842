/- How arguments read: an array of integers by value. Conditions: the value is one that the type allows. -/
import Derived.WalkKit
import Derived.ProofKit
import Derived.OpenShut
set_option linter.unusedSimpArgs false
set_option linter.unusedVariables false
set_option linter.constructorNameAsVariable false
namespace Go.Flow
open Go.ChangeShapes Go.WideShapes Go.ChangeAt Go.RowKit

section
variable {H : Type} {enc : TypeId × Value → H} {P : Program} {w : World} {base : Nat} {spare : Nat → Bool} {held : Bool}

theorem okWide_array {r : Reach} {b0 : Nat} {t e : TypeId} {n : Nat} {v : Value} (ht : P.underlying t = some (.array n e)) (h : Value.okWide P w r b0 t v) : ∃ cs, v = .agg cs ∧ cs.size = P.cellsOf t := by
  simp only [Value.okWide, ht] at h
  obtain ⟨cs, h1, h2, _⟩ := h
  exact ⟨cs, h1, h2⟩

theorem trod_ints {fuel n : Nat} {t e : TypeId} {k : IntKind} {cs : List Value} {x : DataW H × List MemPlace} (ht : P.underlying t = some (.array n e)) (he : P.underlying e = some (.int k)) (hce : P.cellsOf e = 1) (hct : P.cellsOf t = n)
    (h : DataW.trod enc P w base spare held fuel t cs = some x) : ∃ zs : List Int, zs.length = n ∧ cs = zs.map (Value.int k) ∧ ∀ z ∈ zs, (Lit.int k z).wf = true := by
  obtain ⟨xs, m, _, _, hl, hxl, hx⟩ := DataW.trod_array ht h
  rw [hct] at hl
  have key : ∀ j, j ≤ n → ∃ zs : List Int, zs.length = j ∧ cs.take j = zs.map (Value.int k) ∧ ∀ z ∈ zs, (Lit.int k z).wf = true := by
    intro j
    induction j with
    | zero => intro _; exact ⟨[], rfl, by simp, by simp⟩
    | succ j ih =>
      intro hj
      obtain ⟨zs, h1, h2, h3⟩ := ih (by omega)
      have hjx : j < xs.length := by omega
      have hj' := hx j (by omega)
      rw [hce, Nat.mul_one, List.getElem?_eq_getElem hjx] at hj'
      obtain ⟨z, hz1, _, hz2⟩ := DataW.trod_int he hj'
      have hjc : j < cs.length := by omega
      have hd : (cs.drop j).take 1 = [cs[j]] := by rw [List.drop_eq_getElem_cons hjc]; rfl
      rw [hd] at hz1
      refine ⟨zs ++ [z], by simp [h1], ?_, ?_⟩
      · rw [List.take_succ_eq_append_getElem hjc, h2, List.map_append, hz1]; rfl
      · intro q hq
        rcases List.mem_append.1 hq with h | h
        · exact h3 q h
        · simp at h; subst h; exact hz2
  obtain ⟨zs, h1, h2, h3⟩ := key n (Nat.le_refl _)
  exact ⟨zs, h1, by rw [← h2, List.take_of_length_le (by omega)], h3⟩

theorem six_of {α : Type} {l : List α} (h : l.length = 6) : ∃ x0 x1 x2 x3 x4 x5, l = [x0, x1, x2, x3, x4, x5] := by
  match l, h with
  | [x0, x1, x2, x3, x4, x5], _ => exact ⟨x0, x1, x2, x3, x4, x5, rfl⟩

/-- Six numbers by value. -/
theorem open_six {r : Reach} {b0 : Nat} {t e : TypeId} {k : IntKind} {v : Value} {d : DataW H} {p : List MemPlace} (ht : P.underlying t = some (.array 6 e)) (he : P.underlying e = some (.int k)) (hce : P.cellsOf e = 1) (hct : P.cellsOf t = 6)
    (hv : Value.okWide P w r b0 t v) (h : DataW.Trod enc P w base spare held t v d p) :
    ∃ x0 x1 x2 x3 x4 x5 : Int, v = .agg #[.int k x0, .int k x1, .int k x2, .int k x3, .int k x4, .int k x5] ∧
      (Lit.int k x0).wf = true ∧ (Lit.int k x1).wf = true ∧ (Lit.int k x2).wf = true ∧ (Lit.int k x3).wf = true ∧ (Lit.int k x4).wf = true ∧ (Lit.int k x5).wf = true := by
  obtain ⟨cs, rfl, _⟩ := okWide_array ht hv
  obtain ⟨fuel, hf⟩ := h
  obtain ⟨zs, hz, hcs, hw⟩ := trod_ints ht he hce hct hf
  obtain ⟨x0, x1, x2, x3, x4, x5, rfl⟩ := six_of hz
  refine ⟨x0, x1, x2, x3, x4, x5, ?_, hw _ (by simp), hw _ (by simp), hw _ (by simp), hw _ (by simp), hw _ (by simp), hw _ (by simp)⟩
  obtain ⟨l⟩ := cs
  simp only [Value.cells] at hcs
  subst hcs
  rfl
theorem u64_of {x : Int} (h : (Lit.int .u64 x).wf = true) : 0 ≤ x ∧ x < 18446744073709551616 := by
  simp [Lit.wf, IntKind.min, IntKind.max, IntKind.signed, IntKind.bits] at h
  omega
end
end Go.Flow
