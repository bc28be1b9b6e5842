/- Headers: the contracts of entry.Formed and of the document's Formed, as they are told to the executor. Condition: the tokens are bytes. -/
import Derived.Test.YtnlejejjeilpoaaForm2
set_option linter.unusedSimpArgs false
set_option linter.unusedVariables false
set_option linter.constructorNameAsVariable false
namespace Go.Proofs.Ytnlejejjeilpoaa
open Go Go.Ex Go.RowKit Go.Flow

def inW : E := .and (.le (.lit 0) (.wrap .i64 (.sub (.var 0) (.lit 1)))) (.lt (.wrap .i64 (.sub (.var 0) (.lit 1))) (.lit 6))
theorem pl {ρ : Env} (h : ¬ bev ρ ePL = true) : 1 ≤ ρ.i 0 ∧ ρ.i 0 ≤ 6 := by
  have h : ¬ (bev ρ (match rE with | .and (.not (.or (.or (.or (.not (.and (.not (.or a _)) _)) _) _) _)) _ => a | _ => .tt) = true) := h
  simp only [rE, fE, bT_or, bT_lt, iev_var, iev_lit] at h
  omega
theorem inW_of {ρ : Env} (h : ¬ bev ρ ePL = true) : bev ρ inW = true := by
  have := pl h
  have w : IntKind.i64.wrap (ρ.i 0 - 1) = ρ.i 0 - 1 := IntWalk.i64_in _ (by omega)
  simp only [inW, bT_and, bT_le, bT_lt, iev_wrap, iev_sub, iev_var, iev_lit, w]
  omega
noncomputable def cE : E := .and (.not (.or ePL (.not eKN))) (.and (.not eKB) eFI)
noncomputable def xR : E := .and (.and eBR eFI) eCT
noncomputable def evF (c : E) (l : Nat) : Ev := .ite c (.x l (fun es nv ρ => setVars (fun p => sortedF p ρ.w) 1 es nv ρ) [.var 53, .var 54, .var 55, .var 56] 128) .id
theorem ndE_eq : fE.2.1 = .and (.and (.and (.imp (.not ePL) (.e (.or ePL inW))) (.imp (.not ePL) (.e (.or ePL inW)))) (.and (.e (.or (.not cE) (.le (.lit 0) (.var 55)))) (.imp (.not (.or (.not cE) eL8)) (.p 10 (fun es ρ => TokN (ptOf es ρ) ρ.w) [.var 53, .var 54, .var 55, .var 56]))))
    (.at (evF (.not (.or (.not cE) eL8)) 10) (.imp (.not (.or (.or (.or (.not cE) eL8) (.not (.bvar 128))) (.not eBK))) (.e (.or (.not (.bvar 35)) (.le (.lit 0) (.var 55)))))) := by kernel_rfl
theorem ndR_eq : fR.2.1 = .and (.and (.e (.or ePL (.le (.lit 0) (.var 55)))) (.imp (.not (.or ePL eL8)) (.p 11 (fun es ρ => TokN (ptOf es ρ) ρ.w) [.var 53, .var 54, .var 55, .var 56])))
    (.at (evF (.not (.or ePL eL8)) 11) (.imp (.not (.or (.or ePL eL8) (.not (.bvar 128)))) (.imp (.and (.not (.lt (.lit 1048576) (.var 57))) (.and (.not (.lt (.lit 1048576) (.var 58))) (.and (.not (.lt (.lit 1048576) (.var 59))) (.and (.not (.lt (.lit 1048576) (.var 60))) (.and (.not (.lt (.lit 1048576) (.var 61))) (.not (.lt (.lit 1048576) (.var 62))))))))
      (.and (.e (.or (.not (.bvar 35)) (.le (.lit 0) (.var 55)))) (.and (.imp xR (.e (.or (.not xR) inW))) (.imp xR (.e (.or (.not xR) inW)))))))) := by kernel_rfl
theorem evF_agree (c : E) (l : Nat) (ρ : Env) : Agree 128 ρ ((evF c l).run ρ) := by
  simp only [evF, Ev.run]
  split
  · exact setVars_agree _ _ _ _ _
  · exact Agree.refl _ _
theorem needE {p : Pt} {W : World} (hN : FormN p W) : fE.2.1.holds (en p W) := by
  have len : 0 ≤ p.i 55 := hN.tok.len.1
  have l2 : ((evF (.not (.or (.not cE) eL8)) 10).run (en p W)).i 55 = p.i 55 := (evF_agree _ _ _).i 55 (by decide)
  rw [ndE_eq]
  simp only [Nd.holds, bT_not, bT_or, bT_le, iev_lit, iev_var, l2]
  exact ⟨⟨⟨fun h => Or.inr (inW_of h), fun h => Or.inr (inW_of h)⟩, Or.inr len, fun _ => hN.tok⟩, fun _ => Or.inr len⟩
theorem needR {p : Pt} {W : World} (hN : FormN p W) : fR.2.1.holds (en p W) := by
  have len : 0 ≤ p.i 55 := hN.tok.len.1
  have l2 : ((evF (.not (.or ePL eL8)) 11).run (en p W)).i 55 = p.i 55 := (evF_agree _ _ _).i 55 (by decide)
  rw [ndR_eq]
  simp only [Nd.holds, bT_not, bT_or, bT_le, iev_lit, iev_var, l2]
  refine ⟨⟨Or.inr len, fun _ => hN.tok⟩, fun h _ => ⟨Or.inr len, fun _ => Or.inr (inW_of fun x => h (Or.inl (Or.inl x))), fun _ => Or.inr (inW_of fun x => h (Or.inl (Or.inl x)))⟩⟩

noncomputable def formedS : Summ := flatW 13 24 [.agg hk] [.one .bool] FormN formedF
noncomputable def refFormedS : Summ := flatW 14 25 [.agg hk] [.one .bool] FormN formedF
theorem hk_args (p : Pt) (W : World) : (([.sv (.agg (ckCVs 0 hk))] : List TV).map (TV.ev id (en p W))) = swVals p 0 [.agg hk] := by
  simp only [List.map_cons, List.map_nil, TV.ev, SV.ev, swVals, Sw.val]
  rw [ckCVs_ev (p := p) rfl rfl]
theorem formedS_ok : SummOK Try.prog formedS := flatW_ok fun p W w hr hN => by
  have key := funE_sound frmΓ_ok fE_eq id (en p W) w hr (needE hN)
  rw [hk_args] at key
  exact key.mono fun e w' h => ⟨h.1.trans (congrArg (fun b => Ending.returned (Value.bool b)) (lawE hN)), h.2⟩
theorem refFormedS_ok : SummOK Try.prog refFormedS := flatW_ok fun p W w hr hN => by
  have key := funE_sound frmΓ_ok fR_eq id (en p W) w hr (needR hN)
  rw [hk_args] at key
  exact key.mono fun e w' h => ⟨h.1.trans (congrArg (fun b => Ending.returned (Value.bool b)) (lawR hN)), h.2⟩
end Go.Proofs.Ytnlejejjeilpoaa
