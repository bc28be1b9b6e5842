/- Headers: what entry.Formed and the document's Formed answer, as it is told to the executor. Condition: the tokens are bytes. -/
import Derived.Test.YtnlejejjeilpoaaForm
set_option linter.unusedSimpArgs false
set_option linter.unusedVariables false
set_option linter.constructorNameAsVariable false
namespace Go.Proofs.Ytnlejejjeilpoaa
open Go Go.Ex Go.RowKit Go.Flow

def en (p : Pt) (W : World) : Env := ⟨p.i, p.b, W⟩
def tp (p : Pt) (W : World) : Pt := ptOf [.var 53, .var 54, .var 55, .var 56] (en p W)
structure FormN (p : Pt) (W : World) : Prop where
  tok : TokN (tp p W) W
  size : -9223372036854775808 ≤ p.i 95 ∧ p.i 95 < 9223372036854775808
noncomputable def formB (p : Pt) (W : World) : Bool := !(bev (en p W) ePL) && bev (en p W) eKN && !(bev (en p W) eKB) && bev (en p W) eFI && !(bev (en p W) eL8) && (sortedF (tp p W) W).b 0 && bev (en p W) eBR && bev (en p W) eCT
noncomputable def formedF (p : Pt) (W : World) : Pt := ⟨fun _ => 0, fun _ => formB p W⟩

theorem bk_eq {p : Pt} {W : World} (h : -9223372036854775808 ≤ p.i 95 ∧ p.i 95 < 9223372036854775808) : bev (en p W) eBK = bev (en p W) eBR := by
  have e1 : (en p W).i 95 = p.i 95 := rfl
  rw [Bool.eq_iff_iff]
  show (bev (en p W) (match rE with | .and (.not (.or _ (.not a))) _ => a | _ => .tt) = true) ↔ (bev (en p W) (match rR with | .and _ (.and _ (.and (.and (.and a _) _) _)) => a | _ => .tt) = true)
  simp only [rE, rR, fE, fR, bT_and, bT_or, bT_not, bT_lt, bT_le, bT_eq, iev_ite, iev_wrap, iev_sub, iev_lit, iev_var, e1]
  generalize p.i 95 = x at *
  by_cases hx : 17 ≤ x
  · have a1 : IntKind.i64.wrap (x - 16) = x - 16 := IntWalk.i64_in _ (by omega)
    have a2 : IntKind.i64.wrap (x - 16 - 1) = x - 17 := by rw [IntWalk.i64_in _ (by omega)]; omega
    have a3 : IntKind.i64.wrap (x - 17) = x - 17 := IntWalk.i64_in _ (by omega)
    have a4 : ¬ x - 17 < 0 := by omega
    rw [a1, a2, a3]
    simp only [a4, if_false]
    by_cases h1 : x - 17 < 64
    · simp [h1]; omega
    by_cases h2 : x - 17 < 128
    · simp [h1, h2]; omega
    by_cases h3 : x - 17 < 256
    · simp [h1, h2, h3]; omega
    by_cases h4 : x - 17 < 512
    · simp [h1, h2, h3, h4]; omega
    by_cases h5 : x - 17 < 1024
    · simp [h1, h2, h3, h4, h5]; omega
    by_cases h6 : x - 17 < 2048
    · simp [h1, h2, h3, h4, h5, h6]; omega
    · simp [h1, h2, h3, h4, h5, h6]; omega
  · have h80 : ¬ 80 ≤ x := by omega
    have hw : IntKind.i64.wrap (IntKind.i64.wrap (x - 16) - 1) < 0 ∨ 2048 ≤ IntKind.i64.wrap (IntKind.i64.wrap (x - 16) - 1) := by
      simp only [IntWalk.i64_left, wrap64]; omega
    generalize IntKind.i64.wrap (IntKind.i64.wrap (x - 16) - 1) = y at *
    rcases hw with hy | hy
    · simp [h80, hy]
    · have b0 : ¬ y < 0 := by omega
      have b1 : ¬ y < 64 := by omega
      have b2 : ¬ y < 128 := by omega
      have b3 : ¬ y < 256 := by omega
      have b4 : ¬ y < 512 := by omega
      have b5 : ¬ y < 1024 := by omega
      have b6 : ¬ y < 2048 := by omega
      simp [h80, b0, b1, b2, b3, b4, b5, b6]

theorem lawE {p : Pt} {W : World} (hN : FormN p W) : bev (fE.2.2.run (en p W)) rE = formB p W := by
  rw [evE]
  simp only [Ev.run]
  split
  · rename_i hc
    have ag : Agree 128 (en p W) (setVars (fun p => sortedF p (en p W).w) 1 [.var 53, .var 54, .var 55, .var 56] 128 (en p W)) := setVars_agree _ _ _ _ _
    have ag : Agree 128 (en p W) (setVars (fun q => sortedF q W) 1 [.var 53, .var 54, .var 55, .var 56] 128 (en p W)) := setVars_agree _ _ _ _ _
    have hs : (setVars (fun q => sortedF q W) 1 [.var 53, .var 54, .var 55, .var 56] 128 (en p W)).b 128 = (sortedF (tp p W) W).b 0 := setVars_b (fun q => sortedF q W) 1 [.var 53, .var 54, .var 55, .var 56] 128 (en p W) (j := 0) (by decide)
    show bev (setVars (fun q => sortedF q W) 1 [.var 53, .var 54, .var 55, .var 56] 128 (en p W)) rE = _
    generalize setVars (fun q => sortedF q W) 1 [.var 53, .var 54, .var 55, .var 56] 128 (en p W) = σ at *
    rw [rE_eq]
    simp only [bev_and, bev_or, bev_not, bev_bvar, hs, bev_agree ag (show ePL.upto 128 = true by kernel_rfl), bev_agree ag (show eKN.upto 128 = true by kernel_rfl), bev_agree ag (show eKB.upto 128 = true by kernel_rfl), bev_agree ag (show eFI.upto 128 = true by kernel_rfl), bev_agree ag (show eL8.upto 128 = true by kernel_rfl), bev_agree ag (show eBK.upto 128 = true by kernel_rfl), bev_agree ag (show eCT.upto 128 = true by kernel_rfl), bk_eq hN.size, formB]
    generalize bev (en p W) ePL = a; generalize bev (en p W) eKN = b; generalize bev (en p W) eKB = c; generalize bev (en p W) eFI = d; generalize bev (en p W) eL8 = e; generalize bev (en p W) eBR = f; generalize bev (en p W) eCT = g; generalize (sortedF (tp p W) W).b 0 = s
    revert a b c d e f g s
    decide
  · rename_i hc
    rw [rE_eq]
    simp only [bev_and, bev_or, bev_not, bev_bvar, bk_eq hN.size, formB] at hc ⊢
    generalize bev (en p W) ePL = a at *; generalize bev (en p W) eKN = b at *; generalize bev (en p W) eKB = c at *; generalize bev (en p W) eFI = d at *; generalize bev (en p W) eL8 = e at *; generalize bev (en p W) eBR = f; generalize bev (en p W) eCT = g; generalize (sortedF (tp p W) W).b 0 = s; generalize (en p W).b 128 = t
    revert hc
    revert a b c d e f g s t
    decide
theorem lawR {p : Pt} {W : World} (hN : FormN p W) : bev (fR.2.2.run (en p W)) rR = formB p W := by
  rw [evR]
  simp only [Ev.run]
  split
  · rename_i hc
    have ag : Agree 128 (en p W) (setVars (fun q => sortedF q W) 1 [.var 53, .var 54, .var 55, .var 56] 128 (en p W)) := setVars_agree _ _ _ _ _
    have hs : (setVars (fun q => sortedF q W) 1 [.var 53, .var 54, .var 55, .var 56] 128 (en p W)).b 128 = (sortedF (tp p W) W).b 0 := setVars_b (fun q => sortedF q W) 1 [.var 53, .var 54, .var 55, .var 56] 128 (en p W) (j := 0) (by decide)
    show bev (setVars (fun q => sortedF q W) 1 [.var 53, .var 54, .var 55, .var 56] 128 (en p W)) rR = _
    generalize setVars (fun q => sortedF q W) 1 [.var 53, .var 54, .var 55, .var 56] 128 (en p W) = σ at *
    rw [rR_eq]
    simp only [bev_and, bev_or, bev_not, bev_bvar, hs, bev_agree ag (show ePL.upto 128 = true by kernel_rfl), bev_agree ag (show eKN.upto 128 = true by kernel_rfl), bev_agree ag (show eKB.upto 128 = true by kernel_rfl), bev_agree ag (show eFI.upto 128 = true by kernel_rfl), bev_agree ag (show eL8.upto 128 = true by kernel_rfl), bev_agree ag (show eBR.upto 128 = true by kernel_rfl), bev_agree ag (show eCT.upto 128 = true by kernel_rfl), formB]
    generalize bev (en p W) ePL = a; generalize bev (en p W) eKN = b; generalize bev (en p W) eKB = c; generalize bev (en p W) eFI = d; generalize bev (en p W) eL8 = e; generalize bev (en p W) eBR = f; generalize bev (en p W) eCT = g; generalize (sortedF (tp p W) W).b 0 = s
    revert a b c d e f g s
    decide
  · rename_i hc
    rw [rR_eq]
    simp only [bev_and, bev_or, bev_not, bev_bvar, formB] at hc ⊢
    generalize bev (en p W) ePL = a at *; generalize bev (en p W) eKN = b at *; generalize bev (en p W) eKB = c at *; generalize bev (en p W) eFI = d at *; generalize bev (en p W) eL8 = e at *; generalize bev (en p W) eBR = f; generalize bev (en p W) eCT = g; generalize (sortedF (tp p W) W).b 0 = s; generalize (en p W).b 128 = t
    revert hc
    revert a b c d e f g s t
    decide
end Go.Proofs.Ytnlejejjeilpoaa
