/- VectorReady of a vector and a header whose tokens are bytes: the law. -/
import Derived.Test.YtnlejejjeilpoaaRdy
set_option linter.unusedSimpArgs false
set_option linter.unusedVariables false
set_option linter.constructorNameAsVariable false
namespace Go.Proofs.Ytnlejejjeilpoaa
open Go Go.Ex Go.RowKit Go.Flow

def gE : List E := [.var 0, .var 1, .var 2, .var 3, .var 4, .var 5, .var 63, .var 64, .var 65, .var 66, .var 67, .var 68]
noncomputable def rdE : E := match rd.1 with | .sv (.one (.bool e)) => e | _ => .tt
noncomputable def eQ1 : E := match rdE with | .or _ (.beq (.and (.and _ a) _) _) => a | _ => .tt
noncomputable def eQ2 : E := match rdE with | .or _ (.beq _ (.and (.not (.or _ (.not a))) _)) => a | _ => .tt
noncomputable def eGR : E := match rdE with | .or _ (.beq _ (.and _ (.not a))) => a | _ => .tt
def eL : E := .lt (.lit 20) (.var 61)
theorem rdE_eq : rdE = .or eL (.beq (.and (.and (.bvar 134) eQ1) (.bvar 135)) (.and (.not (.or (.not (.bvar 136)) (.not eQ2))) (.not eGR))) := by kernel_rfl
def inW6 : E := .and (.le (.lit 0) (.wrap .i64 (.sub (.var 6) (.lit 1)))) (.lt (.wrap .i64 (.sub (.var 6) (.lit 1))) (.lit 6))
noncomputable def x13 : Ev := .x 13 (fun es nv ρ => setVars (fun p => formedF p ρ.w) 1 es nv ρ) hE 134
noncomputable def x14 : Ev := .x 14 (fun es nv ρ => setVars (fun p => formedF p ρ.w) 1 es nv ρ) hE 136
noncomputable def x12 : Ev := .ite (.and (.bvar 134) eQ1) (.x 12 (setVars greatF 1) gE 135) .id
noncomputable def evA : Ev := .ite (.not eL) (.seq x13 x12) .id
theorem rdV_eq : rd.2.2 = .seq evA (.ite (.not eL) x14 .id) := by kernel_rfl
theorem rdN_eq : rd.2.1 = .and (.e (.le (.lit 0) (.var 61))) (.and (.imp (.not eL) (.and (.p 13 (fun es ρ => FormN (ptOf es ρ) ρ.w) hE) (.at x13 (.and (.imp (.bvar 134) (.e (.or (.not (.bvar 134)) inW6))) (.and (.imp (.bvar 134) (.e (.or (.not (.bvar 134)) inW6))) (.imp (.and (.bvar 134) eQ1) (.p 12 (fun es ρ => vecN (ptOf es ρ)) gE)))))))
    (.at evA (.imp (.not eL) (.and (.p 14 (fun es ρ => FormN (ptOf es ρ) ρ.w) hE) (.at x14 (.and (.imp (.bvar 136) (.e (.or (.not (.bvar 136)) inW6))) (.imp (.bvar 136) (.e (.or (.not (.bvar 136)) inW6))))))))) := by kernel_rfl

theorem ptOf_agree {n : Nat} {ρ ρ' : Env} (h : Agree n ρ ρ') {es : List E} (hb : es.all (·.upto n) = true) : ptOf es ρ' = ptOf es ρ := by
  have up : ∀ j, (es.getD j .tt).upto n = true := fun j => by
    rw [List.getD_eq_getElem?_getD]
    cases hj : es[j]? with
    | none => rfl
    | some e => exact List.all_eq_true.1 hb e (List.mem_of_getElem? hj)
  simp only [ptOf, iev_agree h (up _), bev_agree h (up _)]
def qp (p : Pt) (W : World) : Pt := ptOf hE (en p W)
structure RdyN (p : Pt) (W : World) : Prop where
  len : 0 ≤ p.i 61
  form : p.i 61 ≤ 20 → FormN (qp p W) W
  vec : vecN (ptOf gE (en p W))
theorem pl2 {ρ : Env} (h : ¬ bev ρ ePL = true) : 1 ≤ ρ.i 1 ∧ ρ.i 1 ≤ 1048576 := by
  have h : ¬ (bev ρ (match rE with | .and (.not (.or (.or (.or (.not (.and (.not (.or a _)) _)) _) _) _)) _ => a | _ => .tt) = true) := h
  simp only [rE, fE, bT_or, bT_lt, iev_var, iev_lit] at h
  omega
theorem formB_pl {q : Pt} {W : World} (h : formB q W = true) : ¬ bev (en q W) ePL = true := by
  unfold formB at h
  simp only [Bool.and_eq_true, Bool.not_eq_true'] at h
  rw [h.1.1.1.1.1.1.1]; decide
theorem form_wr {p : Pt} {W : World} (h : formB (qp p W) W = true) : (1 ≤ p.i 6 ∧ p.i 6 ≤ 6) ∧ 1 ≤ p.i 7 ∧ p.i 7 ≤ 1048576 := ⟨pl (formB_pl h), pl2 (formB_pl h)⟩
theorem q_eq {p : Pt} {W : World} (hN : RdyN p W) (h : formB (qp p W) W = true) : bev (en p W) eQ1 = bev (en p W) eQ2 := by
  obtain ⟨⟨a1, a2⟩, a3, a4⟩ := form_wr h
  have v := hN.vec
  have b0 : 0 ≤ p.i 0 ∧ p.i 0 < 18446744073709551616 := v 0 (by decide)
  have b1 : 0 ≤ p.i 1 ∧ p.i 1 < 18446744073709551616 := v 1 (by decide)
  have b2 : 0 ≤ p.i 2 ∧ p.i 2 < 18446744073709551616 := v 2 (by decide)
  have b3 : 0 ≤ p.i 3 ∧ p.i 3 < 18446744073709551616 := v 3 (by decide)
  have b4 : 0 ≤ p.i 4 ∧ p.i 4 < 18446744073709551616 := v 4 (by decide)
  have b5 : 0 ≤ p.i 5 ∧ p.i 5 < 18446744073709551616 := v 5 (by decide)
  rw [Bool.eq_iff_iff]
  show (bev (en p W) (match rdE with | .or _ (.beq (.and (.and _ a) _) _) => a | _ => .tt) = true) ↔ (bev (en p W) (match rdE with | .or _ (.beq _ (.and (.not (.or _ (.not a))) _)) => a | _ => .tt) = true)
  have ei : ∀ k, (en p W).i k = p.i k := fun _ => rfl
  simp only [rdE, rd, bT_eq, iev_ite, bT_eq, iev_wrap, iev_sub, iev_add, iev_lit, iev_var, ei]
  have w1 : IntKind.i64.wrap (p.i 6 - 1) = p.i 6 - 1 := IntWalk.i64_in _ (by omega)
  rw [w1]
  have w7 : IntKind.u64.wrap (p.i 7 - 1) = p.i 7 - 1 := by simp only [IntKind.wrap, IntKind.signed, IntKind.bits]; simp; omega
  rw [w7]
  have key : ∀ x : Int, 0 ≤ x ∧ x < 18446744073709551616 → (x = p.i 7 - 1 ↔ IntKind.u64.wrap (x + 1) = p.i 7) := fun x hx => by
    have : IntKind.u64.wrap (x + 1) = (x + 1) % 18446744073709551616 := by simp [IntKind.wrap, IntKind.signed, IntKind.bits]
    rw [this]; omega
  apply key
  repeat' split
  all_goals assumption
theorem gr_eq {p : Pt} {W : World} : bev (en p W) eGR = !((greatF (ptOf gE (en p W))).b 0) := by
  have e : (greatF (ptOf gE (en p W))).b 0 = great (p.i 0) (p.i 1) (p.i 2) (p.i 3) (p.i 4) (p.i 5) (p.i 63) (p.i 64) (p.i 65) (p.i 66) (p.i 67) (p.i 68) := rfl
  rw [e, Bool.eq_iff_iff]
  show (bev (en p W) (match rdE with | .or _ (.beq _ (.and _ (.not a))) => a | _ => .tt) = true) ↔ _
  have ei : ∀ k, (en p W).i k = p.i k := fun _ => rfl
  simp only [rdE, rd, bT_or, bT_and, bT_not, bT_lt, iev_var, ei]
  simp only [great, Bool.not_eq_true', decide_eq_false_iff_not]
  omega
end Go.Proofs.Ytnlejejjeilpoaa
