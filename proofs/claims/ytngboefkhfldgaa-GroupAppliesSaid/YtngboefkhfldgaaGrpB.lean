/- Layer 17: GroupApplies answers true: what its walk owes. No condition. -/
import Derived.Test.YtngboefkhfldgaaGrpA
set_option linter.unusedSimpArgs false
set_option linter.unusedVariables false
set_option linter.constructorNameAsVariable false
namespace Go.Proofs.Ytngboefkhfldgaa.V2
open Go Go.Sx

set_option maxRecDepth 20000 in
theorem appliesS_ok : appliesS.OK Try.prog := by
  refine Spec.of_fn (Γ := appΓ) appΓ_ok ?_
  rintro xs Hs Rs hl1 hl2 ⟨v1, v2, v3, W, L, H, C, rfl, rfl, ⟨x, y, c, rfl, hy, a1⟩, ⟨x2, y2, c2, rfl, hy2, a2⟩, ⟨x3, y3, c3, rfl, hy3, a3⟩, hok⟩
  have e0 : Hs = [] := List.length_eq_zero_iff.1 hl1
  subst e0
  refine ⟨appliesW, envI [x, y, L.length, c, x2, y2, H.length, c2, x3, y3, C.length, c3] false (List.replicate 12 Hl.none ++ [Hl.all W]), appInv (Hl.all W), fun _ q => (L.length - q.i 20).toNat, ?_, ⟨?_, ?_, ?_, ?_⟩, (fun _ h => nomatch h), ?_⟩
  · show [Value.slice (slP x y) (L.length : Int).toNat ((c : Int)).toNat, Value.slice (slP x2 y2) (H.length : Int).toNat ((c2 : Int)).toNat, Value.slice (slP x3 y3) (C.length : Int).toNat ((c3 : Int)).toNat] = _
    simp only [Int.toNat_natCast]
  · intro r hr ho; simp [appliesW] at hr; subst hr; cases ho
  · intro r hr ho; simp [appliesW] at hr; subst hr; exact ⟨Hl.all W, by simp, Hl.le_refl _⟩
  · simp [appliesW]
  · intro r hr; simp [appliesW] at hr; subst hr; trivial
  · show Nd.holds _ _ _ appliesNd
    unfold appliesNd
    simp only [Nd.holds, X.pre, X.rel, X.n, pg0, pg1, pg2, pg3, pg4, fr0, fr1, fr2, pr2, pr4, newHs_zero, bT_tt, bT_ff, bT_bvar, bT_not, bT_and, bT_or, bT_ite, bT_lt, bT_le, bT_eq, bT_beq, bT_seq, bT_hB, bT_his, bT_hby, bT_hism, bT_hks, iev_lit, iev_var, iev_rem, iev_quo, iev_add, iev_sub, iev_mul, iev_wrap, iev_ite, iev_hI, iev_hP, iev_hmlen, sev_ite, sev_slit, sev_sof, sev_svar, List.map_cons, List.map_nil, List.length_nil, Nat.add_zero]
    generalize hq0 : envI [x, y, L.length, c, x2, y2, H.length, c2, x3, y3, C.length, c3] false (List.replicate 12 Hl.none ++ [Hl.all W]) = q0
    have base : ∀ q, Agree 13 q0 q → q.i 0 = x ∧ q.i 1 = y ∧ q.i 2 = L.length ∧ q.i 4 = x2 ∧ q.i 5 = y2 ∧ q.i 6 = H.length ∧ q.i 8 = x3 ∧ q.i 9 = y3 ∧ q.i 10 = C.length ∧ q.h 12 = Hl.all W := by
      intro q g
      rw [g.i 0 (by omega), g.i 1 (by omega), g.i 2 (by omega), g.i 4 (by omega), g.i 5 (by omega), g.i 6 (by omega), g.i 8 (by omega), g.i 9 (by omega), g.i 10 (by omega), g.h 12 (by omega), ← hq0]
      exact ⟨rfl, rfl, rfl, rfl, rfl, rfl, rfl, rfl, rfl, rfl⟩
    have yes : ∀ (ρ : Env) (mem : Mem) (r : TV), r.ev ρ = .bool true → postOf appliesS [.slice (slP x y) L.length c, .slice (slP x2 y2) H.length c2, .slice (slP x3 y3) C.length c3] [] [Hl.all W] ρ mem r := fun ρ mem r hr _ =>
      ⟨[], [], rfl, rfl, ⟨⟨fun _ => 0, fun _ => true, fun _ => .empty, fun _ => .tuple #[], fun _ => Hl.none⟩, by rw [hr]; rfl, trivial, trivial⟩, hr⟩
    refine ⟨⟨⟨q0, trivial, rfl⟩, trivial⟩, fun q1 g1 ⟨_, haw, _⟩ => ?_⟩
    have haw : Value.bool (q1.b 13) = .bool true := haw
    have haw : q1.b 13 = true := Value.bool.inj haw
    have out : ∀ q, (pureS 8 [] [.one .bool] (fun _ => True) (fun _ => .bool true)).pre [] [] [] ∧ ∀ ρ' : Env, Agree 14 q ρ' → (∃ F, awakeS2.post [] [] [] ((cpTV 14 [.one .bool]).ev ρ') [] F ∧ (cpRoots 0 [Cp.one .bool] ≠ [] → ρ'.h 14 = F) ∧ cpNorms 14 [.one .bool] ρ') → ∀ mem, postOf appliesS [.slice (slP x y) L.length c, .slice (slP x2 y2) H.length c2, .slice (slP x3 y3) C.length c3] [] [Hl.all W] ρ' mem (.sv (.one (.bool (.bvar 14)))) := fun q =>
      ⟨⟨⟨q, trivial, rfl⟩, trivial⟩, fun ρ' _ ⟨_, h, _⟩ mem => yes _ _ _ h⟩
    obtain ⟨k0, k1, k2, k4, k5, k6, k8, k9, k10, kh⟩ := base q1 g1
    refine ⟨fun _ => ⟨by omega, fun hl1 => ⟨by omega, fun hl2 => ⟨by omega, fun _ => ?_, fun hl3 q2 g2 _ => ?_⟩, fun _ => ?_⟩, fun _ => ?_⟩, fun h => absurd haw h⟩
    · exact ⟨(out q1).1, fun ρ' hg hr => (out q1).2 ρ' hg hr _⟩
    · refine ⟨Int.le_refl 0, fun q3 g3 hI => ⟨fun hlt => ?_, fun _ => yes _ _ _ rfl⟩⟩
      have hI : 0 ≤ q3.i 20 := hI
      have G3 : Agree 13 q0 q3 := g1.trans ((g2.mono (by omega)).trans (g3.mono (by omega)))
      obtain ⟨k0, k1, k2, k4, k5, k6, k8, k9, k10, kh⟩ := base q3 G3
      obtain ⟨i, ei⟩ := Int.eq_ofNat_of_zero_le hI
      have hi : i < L.length := by omega
      have ady : (q3.i 1 + q3.i 20 * 4).toNat = y.toNat + i * 4 := by rw [k1, ei]; omega
      rw [ady, kh, k0]
      obtain ⟨x0, row, cell⟩ : 0 ≤ x ∧ rowOK L[i] skd ∧ ∀ j u, L[i][j]? = some u → (Hl.all W).cell x.toNat (y.toNat + i * 4 + j) = some u := by
        rcases a1 with rfl | ⟨h1, h2⟩
        · simp at hi
        · exact ⟨h1, h2 i L[i] (List.getElem?_eq_getElem hi)⟩
      refine ⟨by omega, by omega, by omega, (row_cell row cell 0 _ rfl).1, (row_cell row cell 1 _ rfl).1, (row_cell row cell 2 _ rfl).1, (row_cell row cell 3 _ rfl).1, ?_, fun q4 g4 ⟨_, ⟨xx, cc, hv⟩, _, nrm⟩ q5 g5 _ q6 g6 _ => ?_⟩
      · show madeS.pre [(SV.agg (Sx.ckCVs 21 gk2)).ev q3, .agg #[.int .i64 _, .int .i64 _, .int .i64 _, .int .u64 _]] [] []
        rw [gV_of]; exact made_pre _ _ _ _ _
      have hv : Value.tuple #[(SV.agg (Sx.ckCVs 42 hk2)).ev q4, (SV.agg (Sx.ckCVs 170 ck2)).ev q4] = .tuple #[hdrV xx, cc] := hv
      have hv : [(SV.agg (Sx.ckCVs 42 hk2)).ev q4, (SV.agg (Sx.ckCVs 170 ck2)).ev q4] = [hdrV xx, cc] := congrArg Array.toList (Value.tuple.inj hv)
      simp only [List.cons.injEq, and_true] at hv
      have hh : HdrOK ((SV.agg (Sx.ckCVs 42 hk2)).ev q6) (Hl.all W) := by
        rw [Sx.ev_ag (g5.trans (g6.mono (by omega))) (by decide : 42 + ckLen hk2 ≤ 201), hv.1]
        exact hdr_okW xx W
      clear hv nrm
      have F6 : Agree 42 q3 q6 := g4.trans ((g5.mono (by omega)).trans (g6.mono (by omega)))
      have keep : appInv (Hl.all W) 1 (assign q6 (mLd 203 (Sx.ckCVs 203 hk2) (Sx.ckCVs 42 hk2)) []) := good1 _ (by kernel_rfl) (by kernel_rfl) hh
      have G6 : Agree 13 q0 q6 := G3.trans (F6.mono (by omega))
      have b6 := base q6 G6
      have j20 : q6.i 20 = i := by rw [F6.i 20 (by omega), ei]
      refine ⟨⟨fun hlt2 => ?_, fun _ => keep⟩, fun q7 g7 hH => ⟨⟨fun hlt3 => ?_, fun _ => trivial⟩, fun q9 g9 _ => ?_⟩⟩
      · obtain ⟨k0, k1, k2, k4, k5, k6, k8, k9, k10, kh⟩ := b6
        have hi2 : i < H.length := by omega
        obtain ⟨x20, row2, cell2⟩ : 0 ≤ x2 ∧ rowOK H[i] hkd ∧ ∀ j u, H[i][j]? = some u → (Hl.all W).cell x2.toNat (y2.toNat + i * 125 + j) = some u := by
          rcases a2 with rfl | ⟨h1, h2⟩
          · simp at hi2
          · exact ⟨h1, h2 i H[i] (List.getElem?_eq_getElem hi2)⟩
        have hHm := hok H[i] (List.getElem_mem hi2)
        generalize H[i] = h at row2 cell2 hHm
        have ad : (q6.i 5 + q6.i 20 * 125).toNat = y2.toNat + i * 125 := by rw [k5, j20]; omega
        have ad53 : (q6.i 5 + q6.i 20 * 125 + 53).toNat = y2.toNat + i * 125 + 53 := by rw [k5, j20]; omega
        have ad1 : (q6.i 5 + q6.i 20 * 125 + 1).toNat = y2.toNat + i * 125 + 1 := by rw [k5, j20]; omega
        obtain ⟨s53, c53⟩ := row_cell row2 cell2 53 .slice rfl
        obtain ⟨s1, _⟩ := row_cell row2 cell2 1 (.int .u64) rfl
        rw [ad, ad53, ad1, kh, k4]
        have hn : valP ((Hl.all W).cell x2.toNat (y2.toNat + i * 125 + 53)) 2 = tokN h ∧ 0 ≤ tokN h := by
          unfold tokN
          rw [c53] at s53 ⊢
          cases hu : h[53]? with
          | none => rw [hu] at s53; cases s53
          | some u =>
            rw [hu] at s53
            cases u <;> simp only [valIs, Bool.false_eq_true] at s53
            exact ⟨by rename_i a n c; cases a with
              | none => rfl
              | some a => obtain ⟨_, _, s⟩ := a; cases s <;> rfl, by simp [lenV]⟩
        rw [hn.1]
        refine ⟨x20, by omega, s53, hn.2, fun h20 => ⟨s1, fun _ => ⟨rowIs_of _ row2 cell2, ?_⟩, fun _ => keep⟩, fun _ => keep⟩
        refine good1 _ (by kernel_rfl) (by kernel_rfl) ?_
        have : (SV.agg (romCells 12 (.var 4) (.add (.var 5) (.mul (.var 20) (.lit 125))) 0 hkd)).ev q6 = rowV h := by
          show Value.agg (List.map (CV.ev q6) _).toArray = _
          rw [romCells_row h hkd 0 row2 ?_]; rfl
          intro j u hu
          simp only [iev_var, iev_add, iev_mul, iev_lit]
          rw [ad, kh, k4, Nat.zero_add]
          exact cell2 j u hu
        rw [this]
        exact hHm h20
      · have F7 : Agree 203 q6 q7 := g7
        obtain ⟨k0, k1, k2, k4, k5, k6, k8, k9, k10, kh⟩ := base q7 (G6.trans (F7.mono (by omega)))
        have j20 : q7.i 20 = i := by rw [F7.i 20 (by omega), j20]
        have hi3 : i < C.length := by omega
        obtain ⟨x30, row3, cell3⟩ : 0 ≤ x3 ∧ rowOK C[i] ckd ∧ ∀ j u, C[i][j]? = some u → (Hl.all W).cell x3.toNat (y3.toNat + i * 10 + j) = some u := by
          rcases a3 with rfl | ⟨h1, h2⟩
          · simp at hi3
          · exact ⟨h1, h2 i C[i] (List.getElem?_eq_getElem hi3)⟩
        generalize C[i] = r at row3 cell3
        have ad : (q7.i 9 + q7.i 20 * 10).toNat = y3.toNat + i * 10 := by rw [k9, j20]; omega
        have ad2 : (q7.i 9 + q7.i 20 * 10 + 2).toNat = y3.toNat + i * 10 + 2 := by rw [k9, j20]; omega
        obtain ⟨s2, _⟩ := row_cell row3 cell3 2 (.int .u64) rfl
        rw [ad, kh, k8]
        refine ⟨x30, by omega, rowIs_of _ row3 cell3, ?_, fun q8 g8 _ => ⟨fun _ => ⟨?_, fun _ => trivial, fun _ => trivial⟩, fun _ => trivial⟩⟩
        · have : TV.ev q7 (.sv (.agg (romCells 12 (.var 8) (.add (.var 9) (.mul (.var 20) (.lit 10))) 0 ckd))) = rowV r := by
            show Value.agg (List.map (CV.ev q7) _).toArray = _
            rw [romCells_row r ckd 0 row3 ?_]; rfl
            intro j u hu
            simp only [iev_var, iev_add, iev_mul, iev_lit]
            rw [ad, kh, k8, Nat.zero_add]
            exact cell3 j u hu
          rw [this]
          obtain ⟨q, _, nq, eq⟩ := row_rep ck2 0 r q7 row3
          exact ⟨q, ⟨nq, trivial⟩, by show [rowV r] = [Value.agg ((Sx.ckCVs 0 ck2).map (CV.ev q)).toArray]; rw [eq]; rfl⟩
        · rw [g8.i 9 (by omega), g8.i 20 (by omega), g8.h 12 (by omega), g8.i 8 (by omega), ad2, kh, k8]; exact s2
      · have F9 : Agree 203 q6 q9 := g7.trans (g9.mono (by omega))
        have hH : HdrOK ((SV.agg (Sx.ckCVs 203 hk2)).ev q7) (Hl.all W) := hH
        have b9 := base q9 (G6.trans (F9.mono (by omega)))
        have hH9 : HdrOK ((SV.agg (Sx.ckCVs 203 hk2)).ev q9) (Hl.all W) := by
          rw [Sx.ev_ag g9 (by decide)]; exact hH
        have rows : ∀ q, Agree 362 q9 q → TV.ev q (.sv (.agg (Sx.ckCVs 21 gk2))) = gV (gOfV ((SV.agg (Sx.ckCVs 21 gk2)).ev q9)) ∧ TV.ev q (.sv (.agg (Sx.ckCVs 203 hk2))) = rowV ((Sx.ckCVs 203 hk2).map (CV.ev q9)) ∧ TV.ev q (.sv (.agg (Sx.ckCVs 331 ck2))) = rowV ((Sx.ckCVs 331 ck2).map (CV.ev q9)) ∧ (Res.ro 12 [] true).hl q = Hl.all W := by
          intro q gq
          refine ⟨?_, ?_, ?_, ?_⟩
          · show (SV.agg (Sx.ckCVs 21 gk2)).ev q = _
            rw [← gV_of, Sx.ev_ag gq (by decide)]
          · show (SV.agg (Sx.ckCVs 203 hk2)).ev q = _
            rw [Sx.ev_ag gq (by decide)]; rfl
          · show (SV.agg (Sx.ckCVs 331 ck2)).ev q = _
            rw [Sx.ev_ag gq (by decide)]; rfl
          · show q.h 12 = _
            rw [gq.h 12 (by omega)]; exact b9.2.2.2.2.2.2.2.2.2
        have j20 : q9.i 20 = i := by rw [F9.i 20 (by omega), j20]
        generalize hgg : gOfV ((SV.agg (Sx.ckCVs 21 gk2)).ev q9) = gg at rows
        have hok9 : HdrOK (rowV ((Sx.ckCVs 203 hk2).map (CV.ev q9))) (Hl.all W) := hH9
        have rh : rowOK ((Sx.ckCVs 203 hk2).map (CV.ev q9)) hkd := row_any hk2 203 (by decide)
        have rc : rowOK ((Sx.ckCVs 331 ck2).map (CV.ev q9)) ckd := row_any ck2 331 (by decide)
        generalize (Sx.ckCVs 203 hk2).map (CV.ev q9) = h at rows hok9 rh
        generalize (Sx.ckCVs 331 ck2).map (CV.ev q9) = r at rows rc
        obtain ⟨w1, w2, w3, w4⟩ := rows q9 (Agree.refl _ _)
        rw [w1, w2, w3, w4]
        refine ⟨apply_pre gg h r rh rc hok9, fun q10 g10 ⟨_, ⟨g', h', c', R', hx, hR, hv⟩, _⟩ q11 g11 _ => ?_⟩
        cases hx; cases hR
        obtain ⟨w1, w2, w3, w4⟩ := rows q11 (g10.trans (g11.mono (by omega)))
        rw [w1, w2, w3, w4]
        refine ⟨apply_pre gg h r rh rc hok9, fun q12 g12 ⟨_, ⟨g', h', c', R', hx, hR, hv'⟩, _⟩ q13 g13 _ => ?_⟩
        cases hx; cases hR
        generalize applyR (hForm (rowV h) (Hl.all W)) (gV gg) (rowV h) (rowV r) = res at hv hv'
        have hv : Value.tuple #[(SV.agg (Sx.ckCVs 362 gk2)).ev q10, .int .i64 (q10.i 383)] = .tuple #[gV res.1, .int .i64 res.2] := hv
        have hv : [(SV.agg (Sx.ckCVs 362 gk2)).ev q10, .int .i64 (q10.i 383)] = [gV res.1, .int .i64 res.2] := congrArg Array.toList (Value.tuple.inj hv)
        have hv' : Value.tuple #[(SV.agg (Sx.ckCVs 385 gk2)).ev q12, .int .i64 (q12.i 406)] = .tuple #[gV res.1, .int .i64 res.2] := hv'
        have hv' : [(SV.agg (Sx.ckCVs 385 gk2)).ev q12, .int .i64 (q12.i 406)] = [gV res.1, .int .i64 res.2] := congrArg Array.toList (Value.tuple.inj hv')
        simp only [List.cons.injEq, Value.int.injEq, true_and, and_true] at hv hv'
        have T13 : Agree 384 q10 q13 := g11.trans ((g12.mono (by omega)).trans (g13.mono (by omega)))
        have e1 : q13.i 383 = q13.i 406 := by rw [T13.i 383 (by omega), g13.i 406 (by omega), hv.2, hv'.2]
        have e2 : bev q13 (eGrpAt 362 385) = true := eq_groupAt (by rw [Sx.ev_ag T13 (by decide), hv.1, Sx.ev_ag g13 (by decide), hv'.1])
        have m20 : q13.i 20 = i := by rw [T13.i 20 (by omega), g10.i 20 (by omega), j20]
        have back : 0 ≤ IntKind.i64.wrap (q13.i 20 + 1) ∧ ((L.length : Int) - IntKind.i64.wrap (q13.i 20 + 1)).toNat < ((L.length : Int) - q3.i 20).toNat := by
          rw [m20, wrap_i64 (by omega) (by omega)]; omega
        have e3 := e2
        simp only [eGrpAt, bT_and, bT_eq, bT_beq, bT_bvar, iev_var, Nat.reduceAdd] at e3
        exact ⟨fun _ => ⟨fun h => absurd e3 h, fun _ => ⟨fun _ => back, fun _ => back⟩⟩, fun h => absurd e1 h⟩
    · exact ⟨(out q1).1, fun ρ' hg hr => (out q1).2 ρ' hg hr _⟩
    · exact ⟨(out q1).1, fun ρ' hg hr => (out q1).2 ρ' hg hr _⟩
end Go.Proofs.Ytngboefkhfldgaa.V2
