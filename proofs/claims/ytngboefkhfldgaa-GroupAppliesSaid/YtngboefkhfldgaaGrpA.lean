/- Layer 17: GroupApplies answers true, of any steps, headers and controls. No condition. -/
import Derived.Test.YtngboefkhfldgaaGrpY
import Derived.Test.YtngboefkhfldgaaGrpZ
set_option linter.unusedSimpArgs false
set_option linter.unusedVariables false
set_option linter.constructorNameAsVariable false
namespace Go.Proofs.Ytngboefkhfldgaa.V2
open Go Go.Sx

/-- Two groups are the same. -/
def eGrpAt (a b : Nat) : E := .and (.eq (.var (a)) (.var (b))) (.and (.eq (.var (a + 1)) (.var (b + 1))) (.and (.and (.beq (.bvar (a + 2)) (.bvar (b + 2))) (.and (.beq (.bvar (a + 3)) (.bvar (b + 3))) (.and (.beq (.bvar (a + 4)) (.bvar (b + 4))) (.and (.beq (.bvar (a + 5)) (.bvar (b + 5))) (.and (.beq (.bvar (a + 6)) (.bvar (b + 6))) (.beq (.bvar (a + 7)) (.bvar (b + 7)))))))) (.and (.and (.beq (.bvar (a + 8)) (.bvar (b + 8))) (.and (.beq (.bvar (a + 9)) (.bvar (b + 9))) (.and (.beq (.bvar (a + 10)) (.bvar (b + 10))) (.and (.beq (.bvar (a + 11)) (.bvar (b + 11))) (.and (.beq (.bvar (a + 12)) (.bvar (b + 12))) (.beq (.bvar (a + 13)) (.bvar (b + 13)))))))) (.and (.and (.eq (.var (a + 14)) (.var (b + 14))) (.and (.eq (.var (a + 15)) (.var (b + 15))) (.and (.eq (.var (a + 16)) (.var (b + 16))) (.and (.eq (.var (a + 17)) (.var (b + 17))) (.and (.eq (.var (a + 18)) (.var (b + 18))) (.eq (.var (a + 19)) (.var (b + 19)))))))) (.eq (.var (a + 20)) (.var (b + 20)))))))
theorem eq_groupAt {q : Env} {a b : Nat} (h : (SV.agg (Sx.ckCVs a gk2)).ev q = (SV.agg (Sx.ckCVs b gk2)).ev q) : bev q (eGrpAt a b) = true := by
  have h : (Sx.ckCVs a gk2).map (CV.ev q) = (Sx.ckCVs b gk2).map (CV.ev q) := congrArg Array.toList (Value.agg.inj h)
  have hi : ∀ j : Nat, valI ((Sx.ckCVs a gk2).map (CV.ev q))[j]? = valI ((Sx.ckCVs b gk2).map (CV.ev q))[j]? := fun j => by rw [h]
  have hb : ∀ j : Nat, valB ((Sx.ckCVs a gk2).map (CV.ev q))[j]? = valB ((Sx.ckCVs b gk2).map (CV.ev q))[j]? := fun j => by rw [h]
  have i0 : q.i a = q.i b := hi 0
  have i1 : q.i (a + 1) = q.i (b + 1) := hi 1
  have b2 : q.b (a + 2) = q.b (b + 2) := hb 2
  have b3 : q.b (a + 3) = q.b (b + 3) := hb 3
  have b4 : q.b (a + 4) = q.b (b + 4) := hb 4
  have b5 : q.b (a + 5) = q.b (b + 5) := hb 5
  have b6 : q.b (a + 6) = q.b (b + 6) := hb 6
  have b7 : q.b (a + 7) = q.b (b + 7) := hb 7
  have b8 : q.b (a + 8) = q.b (b + 8) := hb 8
  have b9 : q.b (a + 9) = q.b (b + 9) := hb 9
  have b10 : q.b (a + 10) = q.b (b + 10) := hb 10
  have b11 : q.b (a + 11) = q.b (b + 11) := hb 11
  have b12 : q.b (a + 12) = q.b (b + 12) := hb 12
  have b13 : q.b (a + 13) = q.b (b + 13) := hb 13
  have i14 : q.i (a + 14) = q.i (b + 14) := hi 14
  have i15 : q.i (a + 15) = q.i (b + 15) := hi 15
  have i16 : q.i (a + 16) = q.i (b + 16) := hi 16
  have i17 : q.i (a + 17) = q.i (b + 17) := hi 17
  have i18 : q.i (a + 18) = q.i (b + 18) := hi 18
  have i19 : q.i (a + 19) = q.i (b + 19) := hi 19
  have i20 : q.i (a + 20) = q.i (b + 20) := hi 20
  simp only [eGrpAt, bT_and, bT_eq, bT_beq, bT_bvar, iev_var, i0, i1, b2, b3, b4, b5, b6, b7, b8, b9, b10, b11, b12, b13, i14, i15, i16, i17, i18, i19, i20, and_self]
theorem hdr_okW (x : Int) (W : World) : HdrOK (hdrV x) (Hl.all W) := by
  refine ⟨W, ⟨fun j => match j with | 0 => x | 1 => 1 | 53 => -1 | 95 => 80 | _ => 0, fun j => match j with | 35 => true | _ => false⟩, rfl, rfl, ?_⟩
  refine ⟨⟨Int.le_refl 0, ⟨Int.le_refl 0, (by decide : (0 : Int) ≤ 4611686018427387904)⟩, fun h => absurd h (by decide : ¬ (0 : Int) < 0), fun i h0 h1 => ?_⟩, (by decide : (-9223372036854775808 : Int) ≤ 80), (by decide : (80 : Int) < 9223372036854775808)⟩
  have h1 : i < 0 := h1
  omega
/-- How many tokens a header's row tells. -/
def tokN (h : List Value) : Int := match h[53]? with
  | some u => lenV u
  | none => 0
theorem row_cell {R : Hl} {x y : Nat} {row : List Value} {ks : List Kd} (hr : rowOK row ks) (hc : ∀ j u, row[j]? = some u → R.cell x (y + j) = some u) (j : Nat) (k : Kd) (hk : ks[j]? = some k) : valIs (R.cell x (y + j)) k = true ∧ R.cell x (y + j) = row[j]? := by
  have : ∀ {row : List Value} {ks : List Kd} {j : Nat}, rowOK row ks → ks[j]? = some k → ∃ u, row[j]? = some u ∧ valIs (some u) k = true := by
    intro row
    induction row with
    | nil => intro ks j h hk; cases ks with
      | nil => simp at hk
      | cons _ _ => exact h.elim
    | cons v l ih => intro ks j h hk; cases ks with
      | nil => exact h.elim
      | cons k' m => cases j with
        | zero => simp at hk; subst hk; exact ⟨v, rfl, h.1⟩
        | succ j => simpa using ih h.2 (by simpa using hk)
  obtain ⟨u, hu, hv⟩ := this hr hk
  rw [hc j u hu, hu]
  exact ⟨hv, rfl⟩
noncomputable def appΓ : List Sx.Spec := [awakeS2, madeS, fewS, applyS2, refApplyS]
theorem appΓ_ok : ∀ t ∈ appΓ, t.OK Try.prog := by
  intro t ht
  simp only [appΓ, List.mem_cons, List.mem_nil_iff, or_false] at ht
  rcases ht with rfl | rfl | rfl | rfl | rfl
  · exact awakeS2_ok
  · exact madeS_ok
  · exact fewS_ok
  · exact applyS2_ok
  · exact refApplyS_ok
noncomputable def appliesS : Sx.Spec where
  fn := 6
  own := []
  rd := [100]
  res := [.one .bool]
  pre := fun xs Hs Rs => ∃ v1 v2 v3 W L H C, xs = [v1, v2, v3] ∧ Rs = [Hl.all W] ∧ RdRows (Hl.all W) v1 skd L ∧ RdRows (Hl.all W) v2 hkd H ∧ RdRows (Hl.all W) v3 ckd C ∧ ∀ h ∈ H, tokN h ≤ 20 → HdrOK (rowV h) (Hl.all W)
  post := fun xs Hs Rs v Hs' F => v = .bool true
set_option maxHeartbeats 4000000 in
def appliesNd : Nd := .and (.pre (.call 0 13 [] [] [])) (.ext (.call 0 13 [] [] []) (.and (.imp (.bvar 13) (.and (.e (.le (.lit 0) (.var 2))) (.and (.imp (.not (.lt (.lit 40) (.var 2))) (.and (.e (.le (.lit 0) (.var 6))) (.and (.imp (.not (.lt (.lit 40) (.var 6))) (.and (.e (.le (.lit 0) (.var 10))) (.and (.imp (.lt (.lit 40) (.var 10)) (.and (.pre (.call 0 14 [] [] [])) (.ext (.call 0 14 [] [] []) (.post [.ro 12 [] true] (.sv (.one (.bool (.bvar 14)))))))) (.imp (.not (.lt (.lit 40) (.var 10))) (.ext (.alloc 14) (.and (.inv 0 (([⟨20, 0, .int .i64 (.lit 0)⟩] : List As) ++ (mLd 15 (Sx.ckCVs 21 gk2) ([.int .i64 (.lit 0), .int .i64 (.lit 0)] ++ List.replicate 12 (CV.bool .ff) ++ [.int .u64 (.lit 0), .int .u64 (.lit 0), .int .u64 (.lit 0), .int .u64 (.lit 0), .int .u64 (.lit 0), .int .u64 (.lit 0), .int .i64 (.lit 0)]))) []) (.havoc 0 0 15 (.and (.imp (.lt (.var 20) (.var 2)) (.and (.e (.le (.lit 0) (.var 0))) (.and (.e (.le (.lit 0) (.var 1))) (.and (.e (.le (.lit 0) (.var 20))) (.and (.e (.his 12 (.var 0) (.add (.var 1) (.mul (.var 20) (.lit 4))) 0 (.int .i64))) (.and (.e (.his 12 (.var 0) (.add (.var 1) (.mul (.var 20) (.lit 4))) 1 (.int .i64))) (.and (.e (.his 12 (.var 0) (.add (.var 1) (.mul (.var 20) (.lit 4))) 2 (.int .i64))) (.and (.e (.his 12 (.var 0) (.add (.var 1) (.mul (.var 20) (.lit 4))) 3 (.int .u64))) (.and (.pre (.call 1 42 [.sv (.agg (Sx.ckCVs 21 gk2)), .sv (.agg [.int .i64 (.hI 12 (.var 0) (.add (.var 1) (.mul (.var 20) (.lit 4))) 0), .int .i64 (.hI 12 (.var 0) (.add (.var 1) (.mul (.var 20) (.lit 4))) 1), .int .i64 (.hI 12 (.var 0) (.add (.var 1) (.mul (.var 20) (.lit 4))) 2), .int .u64 (.hI 12 (.var 0) (.add (.var 1) (.mul (.var 20) (.lit 4))) 3)])] [] [])) (.ext (.call 1 42 [.sv (.agg (Sx.ckCVs 21 gk2)), .sv (.agg [.int .i64 (.hI 12 (.var 0) (.add (.var 1) (.mul (.var 20) (.lit 4))) 0), .int .i64 (.hI 12 (.var 0) (.add (.var 1) (.mul (.var 20) (.lit 4))) 1), .int .i64 (.hI 12 (.var 0) (.add (.var 1) (.mul (.var 20) (.lit 4))) 2), .int .u64 (.hI 12 (.var 0) (.add (.var 1) (.mul (.var 20) (.lit 4))) 3)])] [] []) (.ext (.alloc 201) (.ext (.alloc 202) (.and (.and (.imp (.lt (.var 20) (.var 6)) (.and (.e (.le (.lit 0) (.var 4))) (.and (.e (.le (.lit 0) (.var 5))) (.and (.e (.his 12 (.var 4) (.add (.add (.var 5) (.mul (.var 20) (.lit 125))) (.lit 53)) 0 .slice)) (.and (.e (.le (.lit 0) (.hP 12 (.var 4) (.add (.add (.var 5) (.mul (.var 20) (.lit 125))) (.lit 53)) 0 2))) (.and (.imp (.le (.hP 12 (.var 4) (.add (.add (.var 5) (.mul (.var 20) (.lit 125))) (.lit 53)) 0 2) (.lit 20)) (.and (.e (.his 12 (.var 4) (.add (.add (.var 5) (.mul (.var 20) (.lit 125))) (.lit 1)) 0 (.int .u64))) (.and (.imp (.eq (.rem (.hI 12 (.var 4) (.add (.add (.var 5) (.mul (.var 20) (.lit 125))) (.lit 1)) 0) (.lit 3)) (.lit 1)) (.and (.e (.hks 12 (.var 4) (.add (.var 5) (.mul (.var 20) (.lit 125))) hkd)) (.inv 1 (mLd 203 (Sx.ckCVs 203 hk2) (romCells 12 (.var 4) (.add (.var 5) (.mul (.var 20) (.lit 125))) 0 hkd)) []))) (.imp (.not (.eq (.rem (.hI 12 (.var 4) (.add (.add (.var 5) (.mul (.var 20) (.lit 125))) (.lit 1)) 0) (.lit 3)) (.lit 1))) (.inv 1 (mLd 203 (Sx.ckCVs 203 hk2) (Sx.ckCVs 42 hk2)) []))))) (.imp (.not (.le (.hP 12 (.var 4) (.add (.add (.var 5) (.mul (.var 20) (.lit 125))) (.lit 53)) 0 2) (.lit 20))) (.inv 1 (mLd 203 (Sx.ckCVs 203 hk2) (Sx.ckCVs 42 hk2)) [])))))))) (.imp (.not (.lt (.var 20) (.var 6))) (.inv 1 (mLd 203 (Sx.ckCVs 203 hk2) (Sx.ckCVs 42 hk2)) []))) (.havoc 1 1 203 (.and (.and (.imp (.lt (.var 20) (.var 10)) (.and (.e (.le (.lit 0) (.var 8))) (.and (.e (.le (.lit 0) (.var 9))) (.and (.e (.hks 12 (.var 8) (.add (.var 9) (.mul (.var 20) (.lit 10))) ckd)) (.and (.pre (.call 2 331 [.sv (.agg (romCells 12 (.var 8) (.add (.var 9) (.mul (.var 20) (.lit 10))) 0 ckd))] [] [])) (.ext (.call 2 331 [.sv (.agg (romCells 12 (.var 8) (.add (.var 9) (.mul (.var 20) (.lit 10))) 0 ckd))] [] []) (.and (.imp (.bvar 331) (.and (.e (.his 12 (.var 8) (.add (.add (.var 9) (.mul (.var 20) (.lit 10))) (.lit 2)) 0 (.int .u64))) (.and (.imp (.eq (.rem (.hI 12 (.var 8) (.add (.add (.var 9) (.mul (.var 20) (.lit 10))) (.lit 2)) 0) (.lit 3)) (.lit 1)) (.inv 2 (mLd 331 (Sx.ckCVs 331 ck2) (romCells 12 (.var 8) (.add (.var 9) (.mul (.var 20) (.lit 10))) 0 ckd)) [])) (.imp (.not (.eq (.rem (.hI 12 (.var 8) (.add (.add (.var 9) (.mul (.var 20) (.lit 10))) (.lit 2)) 0) (.lit 3)) (.lit 1))) (.inv 2 (mLd 331 (Sx.ckCVs 331 ck2) (Sx.ckCVs 170 ck2)) []))))) (.imp (.not (.bvar 331)) (.inv 2 (mLd 331 (Sx.ckCVs 331 ck2) (Sx.ckCVs 170 ck2)) []))))))))) (.imp (.not (.lt (.var 20) (.var 10))) (.inv 2 (mLd 331 (Sx.ckCVs 331 ck2) (Sx.ckCVs 170 ck2)) []))) (.havoc 1 2 331 (.and (.pre (.call 3 362 [.sv (.agg (Sx.ckCVs 21 gk2)), .sv (.agg (Sx.ckCVs 203 hk2)), .sv (.agg (Sx.ckCVs 331 ck2))] [] [.ro 12 [] true])) (.ext (.call 3 362 [.sv (.agg (Sx.ckCVs 21 gk2)), .sv (.agg (Sx.ckCVs 203 hk2)), .sv (.agg (Sx.ckCVs 331 ck2))] [] [.ro 12 [] true]) (.ext (.alloc 384) (.and (.pre (.call 4 385 [.sv (.agg (Sx.ckCVs 21 gk2)), .sv (.agg (Sx.ckCVs 203 hk2)), .sv (.agg (Sx.ckCVs 331 ck2))] [] [.ro 12 [] true])) (.ext (.call 4 385 [.sv (.agg (Sx.ckCVs 21 gk2)), .sv (.agg (Sx.ckCVs 203 hk2)), .sv (.agg (Sx.ckCVs 331 ck2))] [] [.ro 12 [] true]) (.ext (.alloc 407) (.and (.imp (.eq (.var 383) (.var 406)) (.and (.imp (.not (.and (.eq (.var 362) (.var 385)) (.and (.eq (.var 363) (.var 386)) (.and (.and (.beq (.bvar 364) (.bvar 387)) (.and (.beq (.bvar 365) (.bvar 388)) (.and (.beq (.bvar 366) (.bvar 389)) (.and (.beq (.bvar 367) (.bvar 390)) (.and (.beq (.bvar 368) (.bvar 391)) (.beq (.bvar 369) (.bvar 392))))))) (.and (.and (.beq (.bvar 370) (.bvar 393)) (.and (.beq (.bvar 371) (.bvar 394)) (.and (.beq (.bvar 372) (.bvar 395)) (.and (.beq (.bvar 373) (.bvar 396)) (.and (.beq (.bvar 374) (.bvar 397)) (.beq (.bvar 375) (.bvar 398))))))) (.and (.and (.eq (.var 376) (.var 399)) (.and (.eq (.var 377) (.var 400)) (.and (.eq (.var 378) (.var 401)) (.and (.eq (.var 379) (.var 402)) (.and (.eq (.var 380) (.var 403)) (.eq (.var 381) (.var 404))))))) (.eq (.var 382) (.var 405)))))))) (.post [.ro 12 [] true, .dead, .hp 42 [] [.var 95, .var 173, .var 177, .var 181, .var 185, .var 189, .var 193, .var 197] [], .dead, .dead, .dead, .dead] (.sv (.one (.bool .ff))))) (.imp (.and (.eq (.var 362) (.var 385)) (.and (.eq (.var 363) (.var 386)) (.and (.and (.beq (.bvar 364) (.bvar 387)) (.and (.beq (.bvar 365) (.bvar 388)) (.and (.beq (.bvar 366) (.bvar 389)) (.and (.beq (.bvar 367) (.bvar 390)) (.and (.beq (.bvar 368) (.bvar 391)) (.beq (.bvar 369) (.bvar 392))))))) (.and (.and (.beq (.bvar 370) (.bvar 393)) (.and (.beq (.bvar 371) (.bvar 394)) (.and (.beq (.bvar 372) (.bvar 395)) (.and (.beq (.bvar 373) (.bvar 396)) (.and (.beq (.bvar 374) (.bvar 397)) (.beq (.bvar 375) (.bvar 398))))))) (.and (.and (.eq (.var 376) (.var 399)) (.and (.eq (.var 377) (.var 400)) (.and (.eq (.var 378) (.var 401)) (.and (.eq (.var 379) (.var 402)) (.and (.eq (.var 380) (.var 403)) (.eq (.var 381) (.var 404))))))) (.eq (.var 382) (.var 405))))))) (.and (.imp (.eq (.var 383) (.lit 0)) (.back 0 0 (([⟨20, 0, .int .i64 (.wrap .i64 (.add (.var 20) (.lit 1)))⟩] : List As) ++ (mLd 15 (Sx.ckCVs 21 gk2) (Sx.ckCVs 362 gk2))) [])) (.imp (.not (.eq (.var 383) (.lit 0))) (.back 0 0 (([⟨20, 0, .int .i64 (.wrap .i64 (.add (.var 20) (.lit 1)))⟩] : List As) ++ (mLd 15 (Sx.ckCVs 21 gk2) (Sx.ckCVs 21 gk2))) [])))))) (.imp (.not (.eq (.var 383) (.var 406))) (.post [.ro 12 [] true, .dead, .hp 42 [] [.var 95, .var 173, .var 177, .var 181, .var 185, .var 189, .var 193, .var 197] [], .dead, .dead, .dead, .dead] (.sv (.one (.bool .ff)))))))))))))))))))))))))))) (.imp (.not (.lt (.var 20) (.var 2))) (.post [.ro 12 [] true, .dead] (.sv (.one (.bool .tt))))))))))))) (.imp (.lt (.lit 40) (.var 6)) (.and (.pre (.call 0 14 [] [] [])) (.ext (.call 0 14 [] [] []) (.post [.ro 12 [] true] (.sv (.one (.bool (.bvar 14))))))))))) (.imp (.lt (.lit 40) (.var 2)) (.and (.pre (.call 0 14 [] [] [])) (.ext (.call 0 14 [] [] []) (.post [.ro 12 [] true] (.sv (.one (.bool (.bvar 14))))))))))) (.imp (.not (.bvar 13)) (.and (.pre (.call 0 14 [] [] [])) (.ext (.call 0 14 [] [] []) (.post [.ro 12 [] true] (.sv (.one (.bool (.bvar 14))))))))))
noncomputable def appliesW : Walk Try.prog appΓ 6 where
  Λ := fun p => if lp p then some ⟨0, [(8, TI .i64 (.var 20))], [(1, .blk 14 (Sx.ckCVs 21 gk2) 28)], 42⟩ else
    if cutAt p [6,1,1,1,0,1,0,0,1,0,0,1,0] then some ⟨1, [], [(3, .blk 201 (Sx.ckCVs 203 hk2) 46)], 331⟩ else
    if cutAt p [6,1,1,1,0,1,0,0,1,0,0,1,1,0] then some ⟨2, [], [(4, .blk 202 (Sx.ckCVs 331 ck2) 50)], 362⟩ else none
  args := [.sv (.one (.sl (.var 0) (.var 1) (.var 2) (.var 3))), .sv (.one (.sl (.var 4) (.var 5) (.var 6) (.var 7))), .sv (.one (.sl (.var 8) (.var 9) (.var 10) (.var 11)))]
  mem := [.ro 12 [] true]
  nv := 13
  nd := appliesNd
  ok := by kernel_rfl
theorem pg0 : appΓ[0]? = some awakeS2 := rfl
theorem pg1 : appΓ[1]? = some madeS := rfl
theorem pg2 : appΓ[2]? = some fewS := rfl
theorem pg3 : appΓ[3]? = some applyS2 := rfl
theorem pg4 : appΓ[4]? = some refApplyS := rfl
theorem pr2 : fewS.res = [.one .bool] := rfl
theorem pr4 : refApplyS.res = [.agg gk2, .one (.int .i64)] := rfl
def appInv (R : Hl) (j : Nat) (q : Env) : Prop := match j with
  | 0 => 0 ≤ q.i 20
  | 1 => HdrOK ((SV.agg (Sx.ckCVs 203 hk2)).ev q) R
  | _ => True
set_option maxRecDepth 20000 in
theorem good1 (cs : List CV) (h : goodA 203 (mLd 203 (Sx.ckCVs 203 hk2) cs) [] = true) (hm : (mL 203 (Sx.ckCVs 203 hk2) cs).isSome = true) {R : Hl} {q : Env} (hok : HdrOK ((SV.agg cs).ev q) R) : appInv R 1 (assign q (mLd 203 (Sx.ckCVs 203 hk2) cs) []) := by
  show HdrOK ((SV.agg (Sx.ckCVs 203 hk2)).ev (assign q (mLd 203 (Sx.ckCVs 203 hk2) cs) [])) R
  rw [assign_ag h hm (fun y hy => hy)]
  exact hok
end Go.Proofs.Ytngboefkhfldgaa.V2
