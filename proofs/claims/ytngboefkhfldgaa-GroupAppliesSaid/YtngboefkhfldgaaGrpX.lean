/- Layer 17: group.Fold as a contract. Condition: the headers may be told whether they are formed. -/
import Derived.Test.YtngboefkhfldgaaGrpW
set_option linter.unusedSimpArgs false
set_option linter.unusedVariables false
set_option linter.constructorNameAsVariable false
namespace Go.Proofs.Ytngboefkhfldgaa.V2
open Go Go.Sx

def hkd : List Kd := hk2.map kdOf
def ckd : List Kd := ck2.map kdOf
/-- A row as a value. -/
def rowV (l : List Value) : Value := .agg l.toArray
noncomputable def stepR (g : Grp) (h c : List Value) : Grp × Int := applyR (hForm (rowV h) Hl.none) (gV g) (rowV h) (rowV c)
/-- What Fold comes to: the group, and how many. -/
noncomputable def foldR : Grp → List (List Value) → List (List Value) → Nat → Grp × Nat
  | g, [], _, n => (g, n)
  | g, _ :: _, [], n => (g, n)
  | g, h :: hs, c :: cs, n => if (stepR g h c).2 = 0 then foldR (stepR g h c).1 hs cs (n + 1) else (g, n)
def FoldIn (xs : List Value) (Rs : List Hl) (H C : List (List Value)) : Prop := ∃ v1 v2 R1 R2, xs = [v1, v2] ∧ Rs = [R1, R2] ∧ RdRows R1 v1 hkd H ∧ RdRows R2 v2 ckd C
theorem FoldIn.uniq {xs : List Value} {Rs : List Hl} {H C H' C' : List (List Value)} (h : FoldIn xs Rs H C) (h' : FoldIn xs Rs H' C') : H = H' ∧ C = C' := by
  obtain ⟨v1, v2, R1, R2, rfl, rfl, a, b⟩ := h
  obtain ⟨v1', v2', R1', R2', e1, e2, a', b'⟩ := h'
  cases e1; cases e2
  exact ⟨a.uniq a', b.uniq b'⟩
noncomputable def foldS : Sx.Spec where
  fn := 19
  own := []
  rd := [0, 1]
  res := [.agg gk2, .one i64]
  pre := fun xs Hs Rs => ∃ H C, FoldIn xs Rs H C ∧ H.length ≤ 4611686018427387904 ∧ ∀ h ∈ H, HdrOK (rowV h) Hl.none
  post := fun xs Hs Rs v Hs' F => ∃ H C, FoldIn xs Rs H C ∧ v = .tuple #[gV (foldR g0 H C 0).1, .int .i64 (foldR g0 H C 0).2]
def foldNd : Nd := .ext (.alloc 10) (.ext (.alloc 11) (.and (.e (.le (.lit 0) (.var 2))) (.and (.inv 0 [⟨12, 0, .int .i64 (.lit 0)⟩, ⟨13, 0, .int .i64 (.lit 0)⟩, ⟨14, 0, .int .i64 (.lit 0)⟩, ⟨15, 1, .bool .ff⟩, ⟨16, 1, .bool .ff⟩, ⟨17, 1, .bool .ff⟩, ⟨18, 1, .bool .ff⟩, ⟨19, 1, .bool .ff⟩, ⟨20, 1, .bool .ff⟩, ⟨21, 1, .bool .ff⟩, ⟨22, 1, .bool .ff⟩, ⟨23, 1, .bool .ff⟩, ⟨24, 1, .bool .ff⟩, ⟨25, 1, .bool .ff⟩, ⟨26, 1, .bool .ff⟩, ⟨27, 0, .int .i64 (.lit 0)⟩, ⟨28, 0, .int .i64 (.lit 0)⟩, ⟨29, 0, .int .i64 (.lit 0)⟩, ⟨30, 0, .int .i64 (.lit 0)⟩, ⟨31, 0, .int .i64 (.lit 0)⟩, ⟨32, 0, .int .i64 (.lit 0)⟩, ⟨33, 0, .int .i64 (.lit 0)⟩] []) (.havoc 0 0 12 (.and (.imp (.lt (.var 12) (.var 2)) (.and (.e (.le (.lit 0) (.var 0))) (.and (.e (.le (.lit 0) (.var 1))) (.and (.e (.le (.lit 0) (.var 12))) (.and (.e (.hks 8 (.var 0) (.add (.var 1) (.mul (.var 12) (.lit 125))) hkd)) (.ext (.alloc 34) (.and (.e (.le (.lit 0) (.var 6))) (.and (.imp (.eq (.var 12) (.var 6)) (.post [.ro 8 [.var 0] false, .ro 9 [.var 4] false, .dead, .dead, .dead] (.tup [.agg (Sx.ckCVs 13 gk2), .one (.int .i64 (.var 12))]))) (.imp (.not (.eq (.var 12) (.var 6))) (.and (.e (.le (.lit 0) (.var 4))) (.and (.e (.le (.lit 0) (.var 5))) (.and (.e (.lt (.var 12) (.var 6))) (.and (.e (.hks 9 (.var 4) (.add (.var 5) (.mul (.var 12) (.lit 10))) ckd)) (.and (.pre (.call 0 35 [.sv (.agg (Sx.ckCVs 13 gk2)), .sv (.agg (romCells 8 (.var 0) (.add (.var 1) (.mul (.var 12) (.lit 125))) 0 hkd)), .sv (.agg (romCells 9 (.var 4) (.add (.var 5) (.mul (.var 12) (.lit 10))) 0 ckd))] [] [.dead])) (.ext (.call 0 35 [.sv (.agg (Sx.ckCVs 13 gk2)), .sv (.agg (romCells 8 (.var 0) (.add (.var 1) (.mul (.var 12) (.lit 125))) 0 hkd)), .sv (.agg (romCells 9 (.var 4) (.add (.var 5) (.mul (.var 12) (.lit 10))) 0 ckd))] [] [.dead]) (.ext (.alloc 57) (.and (.imp (.not (.eq (.var 56) (.lit 0))) (.post [.ro 8 [.var 0] false, .ro 9 [.var 4] false, .dead, .dead, .dead, .dead] (.tup [.agg (Sx.ckCVs 13 gk2), .one (.int .i64 (.var 12))]))) (.imp (.eq (.var 56) (.lit 0)) (.back 0 0 [⟨12, 0, .int .i64 (.wrap .i64 (.add (.var 12) (.lit 1)))⟩, ⟨13, 0, .int .i64 (.var 35)⟩, ⟨14, 0, .int .i64 (.var 36)⟩, ⟨15, 1, .bool (.bvar 37)⟩, ⟨16, 1, .bool (.bvar 38)⟩, ⟨17, 1, .bool (.bvar 39)⟩, ⟨18, 1, .bool (.bvar 40)⟩, ⟨19, 1, .bool (.bvar 41)⟩, ⟨20, 1, .bool (.bvar 42)⟩, ⟨21, 1, .bool (.bvar 43)⟩, ⟨22, 1, .bool (.bvar 44)⟩, ⟨23, 1, .bool (.bvar 45)⟩, ⟨24, 1, .bool (.bvar 46)⟩, ⟨25, 1, .bool (.bvar 47)⟩, ⟨26, 1, .bool (.bvar 48)⟩, ⟨27, 0, .int .i64 (.var 49)⟩, ⟨28, 0, .int .i64 (.var 50)⟩, ⟨29, 0, .int .i64 (.var 51)⟩, ⟨30, 0, .int .i64 (.var 52)⟩, ⟨31, 0, .int .i64 (.var 53)⟩, ⟨32, 0, .int .i64 (.var 54)⟩, ⟨33, 0, .int .i64 (.var 55)⟩] []))))))))))))))))))) (.imp (.not (.lt (.var 12) (.var 2))) (.post [.ro 8 [.var 0] false, .ro 9 [.var 4] false, .dead, .dead] (.tup [.agg (Sx.ckCVs 13 gk2), .one (.int .i64 (.var 2))]))))))))
noncomputable def foldW : Walk Try.prog [applyS2] 19 where
  Λ := fun p => if lp p then some ⟨0, [(13, TI .i64 (.var 12))], [(3, .blk 11 (Sx.ckCVs 13 gk2) 28)], 34⟩ else none
  args := [.sv (.one (.sl (.var 0) (.var 1) (.var 2) (.var 3))), .sv (.one (.sl (.var 4) (.var 5) (.var 6) (.var 7)))]
  mem := [.ro 8 [.var 0] false, .ro 9 [.var 4] false]
  nv := 10
  nd := foldNd
  ok := by kernel_rfl
set_option maxRecDepth 20000 in
/-- A group and two rows are what Apply takes. -/
theorem apply_pre (g : Grp) (h c : List Value) (hh : rowOK h hkd) (hc : rowOK c ckd) {R : Hl} (hok : HdrOK (rowV h) R) : applyS2.pre [gV g, rowV h, rowV c] [] [R] := by
  obtain ⟨q0, e0, _⟩ := shape_group g
  obtain ⟨q1, g1, n1, e1⟩ := row_rep hk2 21 h q0 hh
  obtain ⟨q2, g2, n2, e2⟩ := row_rep ck2 149 c q1 hc
  have eh : (SV.agg (Sx.ckCVs 21 hk2)).ev q2 = rowV h := by
    rw [Sx.ev_ag g2 (by decide)]
    show Value.agg ((Sx.ckCVs 21 hk2).map (CV.ev q1)).toArray = _
    rw [e1]; rfl
  refine ⟨q2, R, ⟨(ckNorms_pure _ _ _ (by decide)).w, ckNormsW_agree g2 hk2 21 (by decide) n1, n2, trivial⟩, ?_, rfl, by rw [eh]; exact hok⟩
  have eg : (SV.agg (Sx.ckCVs 0 gk2)).ev q2 = gV g := by
    rw [Sx.ev_ag (g1.trans (g2.mono (by omega))) (by decide), e0]; rfl
  have ec : (SV.agg (Sx.ckCVs 149 ck2)).ev q2 = rowV c := by
    show Value.agg ((Sx.ckCVs 149 ck2).map (CV.ev q2)).toArray = _
    rw [e2]; rfl
  unfold inVs; rw [cpSVs_ap, List.map_cons, List.map_cons, List.map_cons, List.map_nil, eg, eh, ec]
def foldInv (H C : List (List Value)) (_ : Nat) (q : Env) : Prop := ∃ (g : Grp) (i : Nat), q.i 12 = i ∧ i ≤ H.length ∧ i ≤ C.length ∧ (SV.agg (Sx.ckCVs 13 gk2)).ev q = gV g ∧ foldR g0 H C 0 = foldR g (H.drop i) (C.drop i) i
set_option maxRecDepth 20000 in
theorem foldS_ok : foldS.OK Try.prog := by
  refine Spec.of_fn (Γ := [applyS2]) (fun t ht => ?_) ?_
  · rw [List.mem_singleton] at ht; subst ht; exact applyS2_ok
  rintro xs Hs Rs hl1 hl2 ⟨H, C, hIn, hlen, hok⟩
  have e0 : Hs = [] := List.length_eq_zero_iff.1 hl1
  subst e0
  obtain ⟨v1, v2, R1, R2, rfl, rfl, a, b⟩ := hIn
  obtain ⟨x, y, c, rfl, hy, a'⟩ := a
  obtain ⟨x', y', c', rfl, hy', b'⟩ := b
  refine ⟨foldW, envI [x, y, H.length, c, x', y', C.length, c'] false [Hl.none, Hl.none, Hl.none, Hl.none, Hl.none, Hl.none, Hl.none, Hl.none, R1, R2], foldInv H C, fun _ q => (H.length - q.i 12).toNat, ?_, ⟨?_, ?_, ?_, ?_⟩, (fun _ h => nomatch h), ?_⟩
  · show [Value.slice (slP x y) (H.length : Int).toNat ((c : Int)).toNat, Value.slice (slP x' y') (C.length : Int).toNat ((c' : Int)).toNat] = _
    simp only [Int.toNat_natCast]
  · intro r hr ho; simp [foldW] at hr; rcases hr with rfl | rfl <;> cases ho
  · intro r hr ho; simp [foldW] at hr
    rcases hr with rfl | rfl
    · exact ⟨R1, by simp, Hl.le_refl _⟩
    · exact ⟨R2, by simp, Hl.le_refl _⟩
  · simp [foldW, Res.own]
  · intro r hr; simp [foldW] at hr; rcases hr with rfl | rfl <;> trivial
  · show Nd.holds _ _ _ foldNd
    unfold foldNd
    have ag : ([applyS2] : List Sx.Spec)[0]? = some applyS2 := rfl
    have ar : applyS2.res = [.agg gk2, .one (.int .i64)] := rfl
    simp only [Nd.holds, X.pre, X.rel, X.n, ag, ar, newHs_zero, bT_tt, bT_ff, bT_bvar, bT_not, bT_and, bT_or, bT_ite, bT_lt, bT_le, bT_eq, bT_beq, bT_seq, bT_hB, bT_his, bT_hby, bT_hism, bT_hks, iev_lit, iev_var, iev_rem, iev_quo, iev_add, iev_sub, iev_mul, iev_wrap, iev_ite, iev_hI, iev_hP, iev_hmlen, sev_ite, sev_slit, sev_sof, sev_svar, List.map_cons, List.map_nil, List.length_nil, Nat.add_zero]
    generalize hq0 : envI [x, y, H.length, c, x', y', C.length, c'] false [Hl.none, Hl.none, Hl.none, Hl.none, Hl.none, Hl.none, Hl.none, Hl.none, R1, R2] = q0
    have base : ∀ q, Agree 10 q0 q → q.i 0 = x ∧ q.i 1 = y ∧ q.i 2 = H.length ∧ q.i 4 = x' ∧ q.i 5 = y' ∧ q.i 6 = C.length ∧ q.h 8 = R1 ∧ q.h 9 = R2 := by
      intro q g
      rw [g.i 0 (by omega), g.i 1 (by omega), g.i 2 (by omega), g.i 4 (by omega), g.i 5 (by omega), g.i 6 (by omega), g.h 8 (by omega), g.h 9 (by omega), ← hq0]
      exact ⟨rfl, rfl, rfl, rfl, rfl, rfl, rfl, rfl⟩
    have fin : ∀ (ρ : Env) (mem : Mem) (r : TV) (g : Grp) (n : Nat), r.ev ρ = .tuple #[gV g, .int .i64 n] → foldR g0 H C 0 = (g, n) →
        postOf foldS [.slice (slP x y) H.length c, .slice (slP x' y') C.length c'] [] [R1, R2] ρ mem r := by
      intro ρ mem r g n hr ha _
      obtain ⟨ρ2, h1, h2⟩ := shape_apply g n
      exact ⟨[], [], rfl, rfl, ⟨ρ2, by rw [hr]; exact h1, h2⟩, H, C, ⟨_, _, _, _, rfl, rfl, ⟨x, y, c, rfl, hy, a'⟩, ⟨x', y', c', rfl, hy', b'⟩⟩, by rw [hr, ha]⟩
    intro q1 g1 _ q2 g2 _
    have G2 : Agree 10 q0 q2 := g1.trans (g2.mono (by omega))
    obtain ⟨_, _, k2, _⟩ := base q2 G2
    refine ⟨by omega, ⟨g0, 0, rfl, by omega, by omega, rfl, rfl⟩, fun q3 g3 ⟨g, i, h12, hiH, hiC, hg, hfold⟩ => ⟨fun hlt => ?_, fun hge => ?_⟩⟩
    · have G3 : Agree 10 q0 q3 := G2.trans (g3.mono (by omega))
      obtain ⟨k0, k1, k2, k4, k5, k6, k8, k9⟩ := base q3 G3
      have hi : i < H.length := by omega
      have eH : H[i]? = some H[i] := List.getElem?_eq_getElem hi
      generalize H[i] = h at eH
      obtain ⟨x0, row, cell⟩ : 0 ≤ x ∧ rowOK h hkd ∧ ∀ j u, h[j]? = some u → R1.cell x.toNat (y.toNat + i * 125 + j) = some u := by
        rcases a' with rfl | ⟨h1, h2⟩
        · simp at eH
        · exact ⟨h1, h2 i h eH⟩
      have ady : (q3.i 1 + q3.i 12 * 125).toNat = y.toNat + i * 125 := by rw [k1, h12]; omega
      have hdr : ∀ q, Agree 34 q3 q → TV.ev q (.sv (.agg (romCells 8 (.var 0) (.add (.var 1) (.mul (.var 12) (.lit 125))) 0 hkd))) = rowV h := by
        intro q gq
        show Value.agg (List.map (CV.ev q) _).toArray = _
        rw [romCells_row h hkd 0 row ?_]; rfl
        intro j u hu
        simp only [iev_var, iev_add, iev_mul, iev_lit]
        rw [gq.h 8 (by omega), gq.i 0 (by omega), gq.i 1 (by omega), gq.i 12 (by omega), ady, k8, k0, Nat.zero_add]
        exact cell j u hu
      have dH : H.drop i = h :: H.drop (i + 1) := by
        rw [List.drop_eq_getElem_cons hi]
        have := List.getElem?_eq_getElem hi
        rw [eH] at this
        rw [Option.some.inj this]
      refine ⟨by omega, by omega, by omega, ?_, fun q4 g4 _ => ⟨by rw [g4.i 6 (by omega), k6]; omega, fun he => ?_, fun hne => ?_⟩⟩
      · rw [ady, k0, k8]; exact rowIs_of _ row cell
      · refine fin q4 _ _ g i ?_ ?_
        · show Value.tuple #[(SV.agg (Sx.ckCVs 13 gk2)).ev q4, .int .i64 (q4.i 12)] = _
          rw [Sx.ev_ag g4 (by decide), hg, g4.i 12 (by omega), h12]
        · rw [g4.i 12 (by omega), g4.i 6 (by omega), k6, h12] at he
          have : i = C.length := by omega
          rw [hfold, dH, this, List.drop_length]; rfl
      · rw [g4.i 12 (by omega), g4.i 6 (by omega), k6, h12] at hne
        have hc : i < C.length := by omega
        have eC : C[i]? = some C[i] := List.getElem?_eq_getElem hc
        generalize C[i] = r at eC
        have dC : C.drop i = r :: C.drop (i + 1) := by
          rw [List.drop_eq_getElem_cons hc]
          have := List.getElem?_eq_getElem hc
          rw [eC] at this
          rw [Option.some.inj this]
        obtain ⟨x0', row', cell'⟩ : 0 ≤ x' ∧ rowOK r ckd ∧ ∀ j u, r[j]? = some u → R2.cell x'.toNat (y'.toNat + i * 10 + j) = some u := by
          rcases b' with rfl | ⟨h1, h2⟩
          · simp at eC
          · exact ⟨h1, h2 i r eC⟩
        have ady' : (q4.i 5 + q4.i 12 * 10).toNat = y'.toNat + i * 10 := by rw [g4.i 5 (by omega), g4.i 12 (by omega), k5, h12]; omega
        have ctl : TV.ev q4 (.sv (.agg (romCells 9 (.var 4) (.add (.var 5) (.mul (.var 12) (.lit 10))) 0 ckd))) = rowV r := by
          show Value.agg (List.map (CV.ev q4) _).toArray = _
          rw [romCells_row r ckd 0 row' ?_]; rfl
          intro j u hu
          simp only [iev_var, iev_add, iev_mul, iev_lit]
          rw [ady', g4.h 9 (by omega), g4.i 4 (by omega), k9, k4, Nat.zero_add]
          exact cell' j u hu
        have grp : TV.ev q4 (.sv (.agg (Sx.ckCVs 13 gk2))) = gV g := by
          show (SV.agg (Sx.ckCVs 13 gk2)).ev q4 = _
          rw [Sx.ev_ag g4 (by decide), hg]
        rw [ctl, grp, hdr q4 g4]
        refine ⟨by rw [g4.i 4 (by omega), k4]; exact x0', by rw [g4.i 5 (by omega), k5]; exact hy', by rw [g4.i 12 (by omega), g4.i 6 (by omega), k6, h12]; omega, ?_, apply_pre g h r row row' (hok h (List.mem_of_getElem? eH)), fun q5 g5 ⟨F, ⟨g', h', c'', R, hx, hR, hv⟩, _⟩ q6 g6 _ => ?_⟩
        · rw [ady', g4.i 4 (by omega), k4, g4.h 9 (by omega), k9]; exact rowIs_of _ row' cell'
        · cases hx; cases hR
          have hv : Value.tuple #[(SV.agg (Sx.ckCVs 35 gk2)).ev q5, .int .i64 (q5.i 56)] = .tuple #[gV (stepR g h r).1, .int .i64 (stepR g h r).2] := hv
          have hv : [(SV.agg (Sx.ckCVs 35 gk2)).ev q5, .int .i64 (q5.i 56)] = [gV (stepR g h r).1, .int .i64 (stepR g h r).2] := congrArg Array.toList (Value.tuple.inj hv)
          simp only [List.cons.injEq, Value.int.injEq, true_and, and_true] at hv
          obtain ⟨hv1, hv2⟩ := hv
          have j12 : q6.i 12 = i := by rw [g6.i 12 (by omega), g5.i 12 (by omega), g4.i 12 (by omega), h12]
          have j56 : q6.i 56 = (stepR g h r).2 := by rw [g6.i 56 (by omega), hv2]
          refine ⟨fun hne => fin q6 _ _ g i ?_ ?_, fun he => ⟨⟨(stepR g h r).1, i + 1, ?_, by omega, by omega, ?_, ?_⟩, ?_⟩⟩
          · show Value.tuple #[(SV.agg (Sx.ckCVs 13 gk2)).ev q6, .int .i64 (q6.i 12)] = _
            rw [Sx.ev_ag ((g4.mono (by omega)).trans ((g5.mono (by omega)).trans (g6.mono (by omega)))) (by decide : 13 + ckLen gk2 ≤ 34), hg, j12]
          · rw [hfold, dH, dC]
            show (if (stepR g h r).2 = 0 then _ else _) = _
            rw [if_neg (by rw [← j56]; exact hne)]
          · show IntKind.i64.wrap (q6.i 12 + 1) = _
            rw [wrap_i64 (by omega) (by omega), j12]; omega
          · show (SV.agg (Sx.ckCVs 35 gk2)).ev q6 = _
            rw [Sx.ev_ag g6 (by decide), hv1]
          · rw [hfold, dH, dC]
            show (if (stepR g h r).2 = 0 then _ else _) = _
            rw [if_pos (by rw [← j56]; exact he)]
          · show ((H.length : Int) - IntKind.i64.wrap (q6.i 12 + 1)).toNat < ((H.length : Int) - q3.i 12).toNat
            rw [wrap_i64 (by omega) (by omega)]; omega
    · have G3 : Agree 10 q0 q3 := G2.trans (g3.mono (by omega))
      obtain ⟨k0, k1, k2, k4, k5, k6, k8, k9⟩ := base q3 G3
      have hi : i = H.length := by omega
      refine fin q3 _ _ g H.length ?_ ?_
      · show Value.tuple #[(SV.agg (Sx.ckCVs 13 gk2)).ev q3, .int .i64 (q3.i 2)] = _
        rw [hg, k2]
      · rw [hfold, hi, List.drop_length]; rfl
end Go.Proofs.Ytngboefkhfldgaa.V2
