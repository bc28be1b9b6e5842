/- VectorReady of a vector and a header whose tokens are bytes: true. -/
import Derived.Test.YtnlejejjeilpoaaRdy2
set_option linter.unusedSimpArgs false
set_option linter.unusedVariables false
set_option linter.constructorNameAsVariable false
namespace Go.Proofs.Ytnlejejjeilpoaa
open Go Go.Ex Go.RowKit Go.Flow

noncomputable def s1 (p : Pt) (W : World) : Env := x13.run (en p W)
noncomputable def s2 (p : Pt) (W : World) : Env := x12.run (s1 p W)
noncomputable def s3 (p : Pt) (W : World) : Env := x14.run (s2 p W)
theorem s1_agree (p : Pt) (W : World) : Agree 134 (en p W) (s1 p W) := setVars_agree (fun q => formedF q W) 1 hE 134 (en p W)
theorem s1_b (p : Pt) (W : World) : (s1 p W).b 134 = formB (qp p W) W := setVars_b (fun q => formedF q W) 1 hE 134 (en p W) (j := 0) (by decide)
theorem s2_agree (p : Pt) (W : World) : Agree 135 (s1 p W) (s2 p W) := by
  simp only [s2, x12, Ev.run]
  split
  · exact setVars_agree _ _ _ _ _
  · exact Agree.refl _ _
theorem s02 (p : Pt) (W : World) : Agree 134 (en p W) (s2 p W) := (s1_agree p W).trans ((s2_agree p W).mono (by decide))
theorem s2_w (p : Pt) (W : World) : (s2 p W).w = W := (s02 p W).w
theorem s2_pt (p : Pt) (W : World) : ptOf hE (s2 p W) = qp p W := ptOf_agree (s02 p W) (by kernel_rfl)
theorem s3_agree (p : Pt) (W : World) : Agree 136 (s2 p W) (s3 p W) := setVars_agree (fun q => formedF q (s2 p W).w) 1 hE 136 (s2 p W)
theorem s3_b (p : Pt) (W : World) : (s3 p W).b 136 = formB (qp p W) W := by
  have h : (s3 p W).b 136 = (formedF (ptOf hE (s2 p W)) (s2 p W).w).b 0 := setVars_b (fun q => formedF q (s2 p W).w) 1 hE 136 (s2 p W) (j := 0) (by decide)
  rw [h, s2_pt, s2_w]
  rfl
theorem s1_pt (p : Pt) (W : World) : ptOf gE (s1 p W) = ptOf gE (en p W) := ptOf_agree (s1_agree p W) (by kernel_rfl)
theorem s1_c (p : Pt) (W : World) : bev (s1 p W) eQ1 = bev (en p W) eQ1 := bev_agree (s1_agree p W) (by kernel_rfl)
theorem s2_b (p : Pt) (W : World) (h : formB (qp p W) W = true) (hq : bev (en p W) eQ1 = true) : (s2 p W).b 135 = (greatF (ptOf gE (en p W))).b 0 := by
  have hc : bev (s1 p W) (.and (.bvar 134) eQ1) = true := by rw [bev_and, bev_bvar, s1_b, h, s1_c, hq]; rfl
  have e : s2 p W = setVars greatF 1 gE 135 (s1 p W) := by simp only [s2, x12, Ev.run]; rw [if_pos hc]
  rw [e, ← s1_pt]
  exact setVars_b greatF 1 gE 135 (s1 p W) (j := 0) (by decide)
theorem s03 (p : Pt) (W : World) : Agree 134 (en p W) (s3 p W) := (s02 p W).trans ((s3_agree p W).mono (by decide))
theorem inW6_of {ρ : Env} {p : Pt} {W : World} (h : formB (qp p W) W = true) (e : ρ.i 6 = p.i 6) : bev ρ inW6 = true := by
  have := (form_wr h).1
  have w : IntKind.i64.wrap (p.i 6 - 1) = p.i 6 - 1 := IntWalk.i64_in _ (by omega)
  simp only [inW6, bT_and, bT_le, bT_lt, iev_wrap, iev_sub, iev_var, iev_lit, e, w]
  omega
theorem evA_run {p : Pt} {W : World} (h : ¬ bev (en p W) eL = true) : evA.run (en p W) = s2 p W := by
  simp only [evA, Ev.run]
  rw [if_pos (by rw [bT_not]; exact h)]
  rfl
theorem rd_law {p : Pt} {W : World} (hN : RdyN p W) : bev (rd.2.2.run (en p W)) rdE = true := by
  rw [rdV_eq]
  simp only [Ev.run]
  by_cases hL : bev (en p W) eL = true
  · have e : evA.run (en p W) = en p W := by
      simp only [evA, Ev.run]
      rw [if_neg (by rw [bT_not]; exact fun h => h hL)]
    rw [e, if_neg (by rw [bT_not]; exact fun h => h hL), rdE_eq, bev_or, hL]
    rfl
  · have h2 : bev (s2 p W) eL = bev (en p W) eL := bev_agree (s02 p W) (by kernel_rfl)
    rw [evA_run hL, if_pos (by rw [bT_not, h2]; exact hL)]
    show bev (s3 p W) rdE = true
    have q1 : bev (s3 p W) eQ1 = bev (en p W) eQ1 := bev_agree (s03 p W) (by kernel_rfl)
    have q2 : bev (s3 p W) eQ2 = bev (en p W) eQ2 := bev_agree (s03 p W) (by kernel_rfl)
    have gr : bev (s3 p W) eGR = bev (en p W) eGR := bev_agree (s03 p W) (by kernel_rfl)
    have b134 : (s3 p W).b 134 = formB (qp p W) W := by rw [(s3_agree p W).b 134 (by decide), (s2_agree p W).b 134 (by decide), s1_b]
    have b135 : (s3 p W).b 135 = (s2 p W).b 135 := (s3_agree p W).b 135 (by decide)
    rw [rdE_eq]
    simp only [bev_or, bev_beq, bev_and, bev_not, bev_bvar, b134, b135, s3_b, q1, q2, gr, gr_eq]
    cases hf : formB (qp p W) W with
    | false => simp
    | true =>
      rw [← q_eq hN hf]
      cases hq : bev (en p W) eQ1 with
      | false => simp
      | true => simp [s2_b p W hf hq]
theorem rd_need {p : Pt} {W : World} (hN : RdyN p W) : rd.2.1.holds (en p W) := by
  have len : 0 ≤ p.i 61 := hN.len
  have fm : ¬ bev (en p W) eL = true → FormN (qp p W) W := fun h => hN.form (by
    have h : ¬ (bev (en p W) (.lt (.lit 20) (.var 61)) = true) := h
    rw [bT_lt] at h
    have h : ¬ (20 < p.i 61) := h
    omega)
  rw [rdN_eq]
  simp only [Nd.holds, bT_not, bT_or, bT_le, bT_and, bT_bvar, iev_lit, iev_var]
  have A : ∀ k, k < 134 → (x13.run (en p W)).i k = p.i k := (s1_agree p W).i
  refine ⟨len, fun hL => ⟨fm hL, ?_, ?_, ?_⟩, fun hL => ⟨?_, ?_, ?_⟩⟩
  · intro h
    have hf : formB (qp p W) W = true := (s1_b p W).symm.trans h
    exact Or.inr (inW6_of hf (A 6 (by decide)))
  · intro h
    have hf : formB (qp p W) W = true := (s1_b p W).symm.trans h
    exact Or.inr (inW6_of hf (A 6 (by decide)))
  · intro h
    have e : ptOf gE (x13.run (en p W)) = ptOf gE (en p W) := s1_pt p W
    rw [e]; exact hN.vec
  all_goals
    have hL0 : ¬ bev (en p W) eL = true := fun h => by
      by_cases hq : bev (en p W) (.not eL) = true
      · rw [bT_not] at hq; exact hq h
      · have e : evA.run (en p W) = en p W := by simp only [evA, Ev.run]; rw [if_neg hq]
        rw [e] at hL; exact hL h
    rw [evA_run hL0]
  · rw [s2_pt, s2_w]; exact fm hL0
  · intro h
    have hf : formB (qp p W) W = true := (s3_b p W).symm.trans h
    exact Or.inr (inW6_of hf ((s03 p W).i 6 (by decide)))
  · intro h
    have hf : formB (qp p W) W = true := (s3_b p W).symm.trans h
    exact Or.inr (inW6_of hf ((s03 p W).i 6 (by decide)))

theorem ready_any (p : Pt) (W : World) (hN : RdyN p W) :
    Calls Try.prog 5 #[.agg (ckVals p 0 v6k).toArray, .agg (ckVals p 6 hk).toArray] W fun e w' => e = .returned (.bool true) ∧ RowKit.Below W.heap.size W w' := by
  have key := funE_sound rdyΓ_ok rd_eq id (en p W) W (fun _ _ h => h) (rd_need hN)
  have ea : (([.sv (.agg (ckCVs 0 v6k)), .sv (.agg (ckCVs 6 hk))] : List TV).map (TV.ev id (en p W))) = [.agg (ckVals p 0 v6k).toArray, .agg (ckVals p 6 hk).toArray] := by
    simp only [List.map_cons, List.map_nil, TV.ev, SV.ev]
    rw [ckCVs_ev (p := p) rfl rfl, ckCVs_ev (p := p) rfl rfl]
  rw [ea] at key
  exact key.mono fun e w' h => ⟨h.1.trans (congrArg (fun b => Ending.returned (Value.bool b)) (rd_law hN)), h.2⟩
end Go.Proofs.Ytnlejejjeilpoaa
