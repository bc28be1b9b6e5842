/- law14.VectorSteps answers true, as a contract. Condition: headers that read as such when they have at most 20 tokens. -/
import Derived.Test.YtnlejejjeilpoaaVfG
set_option linter.unusedSimpArgs false
set_option linter.unusedVariables false
set_option linter.constructorNameAsVariable false
namespace Go.Proofs.Ytnlejejjeilpoaa.V2
open Go Go.Sx

/-- A row that is given: with few tokens it is a header. -/
def Given (R : Hl) (row : List Value) : Prop := valP row[53]? 2 ≤ 20 → ∃ h, IsHd R row h
def stepsS : Sx.Spec where
  fn := 6
  own := []
  rd := [101]
  res := [.one .bool]
  pre := fun xs Hs Rs => ∃ v u R rows, xs = [vecV v, u] ∧ Rs = [R] ∧ v.length = 6 ∧ RdRows R u hkd rows ∧ ∀ row ∈ rows, Given R row
  post := fun xs Hs Rs r Hs' F => r = .bool true
def stepsNd : Nd := .ext (.alloc 11) (.and (.pre (.call 0 12 [] [] [])) (.ext (.call 0 12 [] [] []) (.and (.imp (.bvar 12) (.and (.pre (.call 1 13 [.sv (.one (.sl (.var 6) (.var 7) (.var 8) (.var 9))), .sv (.one (.int .i64 (.lit 30)))] [] [.ro 10 [.var 6] true])) (.ext (.call 1 13 [.sv (.one (.sl (.var 6) (.var 7) (.var 8) (.var 9))), .sv (.one (.int .i64 (.lit 30)))] [] [.ro 10 [.var 6] true]) (.and (.imp (.not (.bvar 13)) (.and (.pre (.call 0 14 [] [] [])) (.ext (.call 0 14 [] [] []) (.post [.ro 10 [.var 6] true, .dead] (.sv (.one (.bool (.bvar 14)))))))) (.imp (.bvar 13) (.and (.pre (.call 2 14 [.sv (.agg (Sx.ckCVs 0 v6s)), .sv (.one (.sl (.var 6) (.var 7) (.var 8) (.var 9)))] [] [.ro 10 [.var 6] true, .ro 10 [.var 6] true])) (.ext (.call 2 14 [.sv (.agg (Sx.ckCVs 0 v6s)), .sv (.one (.sl (.var 6) (.var 7) (.var 8) (.var 9)))] [] [.ro 10 [.var 6] true, .ro 10 [.var 6] true]) (.ext (.alloc 24) (.and (.pre (.call 2 25 [.sv (.agg (Sx.ckCVs 18 v6s)), .sv (.one (.sl (.var 6) (.var 7) (.var 8) (.var 9)))] [] [.ro 10 [.var 6] true, .ro 10 [.var 6] true])) (.ext (.call 2 25 [.sv (.agg (Sx.ckCVs 18 v6s)), .sv (.one (.sl (.var 6) (.var 7) (.var 8) (.var 9)))] [] [.ro 10 [.var 6] true, .ro 10 [.var 6] true]) (.ext (.alloc 35) (.ext (.alloc 36) (.and (.inv 0 (([⟨60, 0, .int .i64 (.lit 0)⟩] : List As) ++ (mLd 37 (Sx.ckCVs 61 v6s) (Sx.ckCVs 0 v6s))) []) (.havoc 0 0 37 (.and (.e (.le (.lit 0) (.var 16))) (.and (.imp (.lt (.var 60) (.var 16)) (.and (.e (.le (.lit 0) (.var 14))) (.and (.e (.le (.lit 0) (.var 15))) (.and (.e (.le (.lit 0) (.var 60))) (.and (.e (.hks 14 (.var 14) (.add (.var 15) (.mul (.var 60) (.lit 125))) hkd)) (.and (.pre (.call 3 70 [.sv (.agg (Sx.ckCVs 61 v6s)), .sv (.agg (romCells 14 (.var 14) (.add (.var 15) (.mul (.var 60) (.lit 125))) 0 hkd))] [] [.hp 14 [] [.var 14] []])) (.ext (.call 3 70 [.sv (.agg (Sx.ckCVs 61 v6s)), .sv (.agg (romCells 14 (.var 14) (.add (.var 15) (.mul (.var 60) (.lit 125))) 0 hkd))] [] [.hp 14 [] [.var 14] []]) (.and (.imp (.not (.bvar 70)) (.post [.ro 10 [.var 6] true, .dead, .hp 14 [] [.var 14] [], .dead, .hp 25 [] [.var 25] [], .dead, .dead] (.sv (.one (.bool .ff))))) (.imp (.bvar 70) (.and (.e (.his 14 (.var 14) (.add (.var 15) (.mul (.var 60) (.lit 125))) 0 (.int .i64))) (.and (.e (.his 14 (.var 14) (.add (.add (.var 15) (.mul (.var 60) (.lit 125))) (.lit 1)) 0 (.int .u64))) (.and (.e (.le (.lit 0) (.wrap .i64 (.sub (.hI 14 (.var 14) (.add (.var 15) (.mul (.var 60) (.lit 125))) 0) (.lit 1))))) (.and (.e (.lt (.wrap .i64 (.sub (.hI 14 (.var 14) (.add (.var 15) (.mul (.var 60) (.lit 125))) 0) (.lit 1))) (.lit 6))) (.and (.e (.and (.le (.lit 0) (.wrap .i64 (.sub (.hI 14 (.var 14) (.add (.var 15) (.mul (.var 60) (.lit 125))) 0) (.lit 1)))) (.lt (.wrap .i64 (.sub (.hI 14 (.var 14) (.add (.var 15) (.mul (.var 60) (.lit 125))) 0) (.lit 1))) (.lit 6)))) (.back 0 0 (([⟨60, 0, .int .i64 (.wrap .i64 (.add (.var 60) (.lit 1)))⟩] : List As) ++ (mLd 37 (Sx.ckCVs 61 v6s) [.int .u64 (.ite (.eq (.wrap .i64 (.sub (.hI 14 (.var 14) (.add (.var 15) (.mul (.var 60) (.lit 125))) 0) (.lit 1))) (.lit 0)) (.hI 14 (.var 14) (.add (.add (.var 15) (.mul (.var 60) (.lit 125))) (.lit 1)) 0) (.var 61)), .int .u64 (.ite (.eq (.wrap .i64 (.sub (.hI 14 (.var 14) (.add (.var 15) (.mul (.var 60) (.lit 125))) 0) (.lit 1))) (.lit 1)) (.hI 14 (.var 14) (.add (.add (.var 15) (.mul (.var 60) (.lit 125))) (.lit 1)) 0) (.var 62)), .int .u64 (.ite (.eq (.wrap .i64 (.sub (.hI 14 (.var 14) (.add (.var 15) (.mul (.var 60) (.lit 125))) 0) (.lit 1))) (.lit 2)) (.hI 14 (.var 14) (.add (.add (.var 15) (.mul (.var 60) (.lit 125))) (.lit 1)) 0) (.var 63)), .int .u64 (.ite (.eq (.wrap .i64 (.sub (.hI 14 (.var 14) (.add (.var 15) (.mul (.var 60) (.lit 125))) 0) (.lit 1))) (.lit 3)) (.hI 14 (.var 14) (.add (.add (.var 15) (.mul (.var 60) (.lit 125))) (.lit 1)) 0) (.var 64)), .int .u64 (.ite (.eq (.wrap .i64 (.sub (.hI 14 (.var 14) (.add (.var 15) (.mul (.var 60) (.lit 125))) 0) (.lit 1))) (.lit 4)) (.hI 14 (.var 14) (.add (.add (.var 15) (.mul (.var 60) (.lit 125))) (.lit 1)) 0) (.var 65)), .int .u64 (.ite (.eq (.wrap .i64 (.sub (.hI 14 (.var 14) (.add (.var 15) (.mul (.var 60) (.lit 125))) 0) (.lit 1))) (.lit 5)) (.hI 14 (.var 14) (.add (.add (.var 15) (.mul (.var 60) (.lit 125))) (.lit 1)) 0) (.var 66))])) []))))))))))))))) (.imp (.not (.lt (.var 60) (.var 16))) (.and (.imp (.and (.eq (.var 61) (.var 18)) (.and (.eq (.var 62) (.var 19)) (.and (.eq (.var 63) (.var 20)) (.and (.eq (.var 64) (.var 21)) (.and (.eq (.var 65) (.var 22)) (.eq (.var 66) (.var 23))))))) (.and (.e (.le (.lit 0) (.var 27))) (.and (.imp (.eq (.var 27) (.lit 0)) (.and (.imp (.and (.eq (.var 29) (.var 18)) (.and (.eq (.var 30) (.var 19)) (.and (.eq (.var 31) (.var 20)) (.and (.eq (.var 32) (.var 21)) (.and (.eq (.var 33) (.var 22)) (.eq (.var 34) (.var 23))))))) (.and (.pre (.call 4 70 [.sv (.agg (Sx.ckCVs 18 v6s)), .sv (.agg (Sx.ckCVs 0 v6s))] [] [])) (.ext (.call 4 70 [.sv (.agg (Sx.ckCVs 18 v6s)), .sv (.agg (Sx.ckCVs 0 v6s))] [] []) (.and (.imp (.bvar 70) (.and (.pre (.call 5 71 [.sv (.agg (Sx.ckCVs 0 v6s)), .sv (.agg (Sx.ckCVs 18 v6s))] [] [])) (.ext (.call 5 71 [.sv (.agg (Sx.ckCVs 0 v6s)), .sv (.agg (Sx.ckCVs 18 v6s))] [] []) (.post [.ro 10 [.var 6] true, .dead, .hp 14 [] [.var 14] [], .dead, .hp 25 [] [.var 25] [], .dead, .dead] (.sv (.one (.bool (.eq (.var 71) (.wrap .u64 (.var 16)))))))))) (.imp (.not (.bvar 70)) (.post [.ro 10 [.var 6] true, .dead, .hp 14 [] [.var 14] [], .dead, .hp 25 [] [.var 25] [], .dead, .dead] (.sv (.one (.bool .ff))))))))) (.imp (.not (.and (.eq (.var 29) (.var 18)) (.and (.eq (.var 30) (.var 19)) (.and (.eq (.var 31) (.var 20)) (.and (.eq (.var 32) (.var 21)) (.and (.eq (.var 33) (.var 22)) (.eq (.var 34) (.var 23)))))))) (.post [.ro 10 [.var 6] true, .dead, .hp 14 [] [.var 14] [], .dead, .hp 25 [] [.var 25] [], .dead, .dead] (.sv (.one (.bool .ff))))))) (.imp (.not (.eq (.var 27) (.lit 0))) (.post [.ro 10 [.var 6] true, .dead, .hp 14 [] [.var 14] [], .dead, .hp 25 [] [.var 25] [], .dead, .dead] (.sv (.one (.bool .ff)))))))) (.imp (.not (.and (.eq (.var 61) (.var 18)) (.and (.eq (.var 62) (.var 19)) (.and (.eq (.var 63) (.var 20)) (.and (.eq (.var 64) (.var 21)) (.and (.eq (.var 65) (.var 22)) (.eq (.var 66) (.var 23)))))))) (.post [.ro 10 [.var 6] true, .dead, .hp 14 [] [.var 14] [], .dead, .hp 25 [] [.var 25] [], .dead, .dead] (.sv (.one (.bool .ff))))))))))))))))))))))) (.imp (.not (.bvar 12)) (.and (.pre (.call 0 13 [] [] [])) (.ext (.call 0 13 [] [] []) (.post [.ro 10 [.var 6] true, .dead] (.sv (.one (.bool (.bvar 13)))))))))))
noncomputable def sΓ : List Sx.Spec := [awakeS, fewS, orderS, readyS [10153], greatS2, missS]
theorem sΓ_ok : ∀ t ∈ sΓ, t.OK Try.prog := fun t ht => by
  simp only [sΓ, List.mem_cons, List.mem_nil_iff, or_false] at ht
  rcases ht with rfl | rfl | rfl | rfl | rfl | rfl
  · exact awakeS_ok
  · exact fewS_ok
  · exact orderS_ok
  · exact readyS_ok rfl
  · exact greatS2_ok
  · exact missS_ok
theorem sg0 : sΓ[0]? = some awakeS := rfl
theorem sg1 : sΓ[1]? = some fewS := rfl
theorem sg2 : sΓ[2]? = some orderS := rfl
theorem sg3 : sΓ[3]? = some (readyS [10153]) := rfl
theorem sg4 : sΓ[4]? = some greatS2 := rfl
theorem sg5 : sΓ[5]? = some missS := rfl
theorem sr0 : awakeS.res = [.one .bool] := rfl
theorem sr1 : fewS.res = [.one .bool] := rfl
theorem sr2 : orderS.res = [.one .sl, .agg v6s] := rfl
theorem sr3 : (readyS [10153]).res = [.one .bool] := rfl
theorem sc2 : (cpRoots 0 [Cp.one Ck.sl, Cp.agg v6s] ≠ []) = True := by simp [cpRoots, Cp.roots, Ck.root]
noncomputable def stepsW : Walk Try.prog sΓ stepsS.fn where
  Λ := fun p => if lp p then some ⟨0, [(10, TI .i64 (.var 60))], [(6, .blk 36 (Sx.ckCVs 61 v6s) 24)], 70⟩ else none
  args := [.sv (.agg (Sx.ckCVs 0 v6s)), .sv (.one (.sl (.var 6) (.var 7) (.var 8) (.var 9)))]
  mem := [.ro 10 [.var 6] true]
  nv := 11
  nd := stepsNd
  ok := by kernel_rfl
theorem rd_at {A : Hl} {x y l c : Int} {ks : List Kd} {rows : List (List Value)} (h : RdRows A (.slice (slP x y) l.toNat c.toNat) ks rows) (hx : -1 ≤ x) (hy : 0 ≤ y) (hl : 0 ≤ l) :
    l = rows.length ∧ ∀ (i : Nat) row, rows[i]? = some row → 0 ≤ x ∧ rowOK row ks ∧ ∀ j u, row[j]? = some u → A.cell x.toNat (y.toNat + i * ks.length + j) = some u := by
  obtain ⟨ax, ay, ac, ae, hay, har⟩ := h
  simp only [Value.slice.injEq] at ae
  refine ⟨by omega, fun i row hr => ?_⟩
  rcases har with har | ⟨h0, har⟩
  · rw [har] at hr; simp at hr
  · obtain ⟨e1, e2⟩ := slP_inj (by omega) hay hx hy ae.1.symm
    have e2 := e2 h0
    subst e1; subst e2
    exact ⟨h0, har i row hr⟩
theorem int_of {v : Value} {k : IntKind} (h : valIs (some v) (.int k) = true) : ∃ n, v = .int k n := by
  cases v <;> simp [valIs] at h
  subst h
  exact ⟨_, rfl⟩
def vecT (w s : Int) (q : Env) : List Int := [if IntKind.i64.wrap (w - 1) = 0 then s else q.i 61, if IntKind.i64.wrap (w - 1) = 1 then s else q.i 62, if IntKind.i64.wrap (w - 1) = 2 then s else q.i 63, if IntKind.i64.wrap (w - 1) = 3 then s else q.i 64, if IntKind.i64.wrap (w - 1) = 4 then s else q.i 65, if IntKind.i64.wrap (w - 1) = 5 then s else q.i 66]
theorem vecT_bump {q : Env} {b : Hd} (hw : 1 ≤ b.w ∧ b.w ≤ 6) : vecT b.w b.seq q = bump (vecQ q 61) b := by
  unfold vecT bump vecQ
  rw [wrap_i64 (by omega) (by omega)]
  rcases (by omega : b.w = 1 ∨ b.w = 2 ∨ b.w = 3 ∨ b.w = 4 ∨ b.w = 5 ∨ b.w = 6) with e | e | e | e | e | e <;> rw [e] <;> rfl
def outV (q : Env) : Value := .slice (slP (q.i 14) (q.i 15)) (q.i 16).toNat (q.i 17).toNat
def sM : List CV := [.int .u64 (.ite (.eq (.wrap .i64 (.sub (.hI 14 (.var 14) (.add (.var 15) (.mul (.var 60) (.lit 125))) 0) (.lit 1))) (.lit 0)) (.hI 14 (.var 14) (.add (.add (.var 15) (.mul (.var 60) (.lit 125))) (.lit 1)) 0) (.var 61)), .int .u64 (.ite (.eq (.wrap .i64 (.sub (.hI 14 (.var 14) (.add (.var 15) (.mul (.var 60) (.lit 125))) 0) (.lit 1))) (.lit 1)) (.hI 14 (.var 14) (.add (.add (.var 15) (.mul (.var 60) (.lit 125))) (.lit 1)) 0) (.var 62)), .int .u64 (.ite (.eq (.wrap .i64 (.sub (.hI 14 (.var 14) (.add (.var 15) (.mul (.var 60) (.lit 125))) 0) (.lit 1))) (.lit 2)) (.hI 14 (.var 14) (.add (.add (.var 15) (.mul (.var 60) (.lit 125))) (.lit 1)) 0) (.var 63)), .int .u64 (.ite (.eq (.wrap .i64 (.sub (.hI 14 (.var 14) (.add (.var 15) (.mul (.var 60) (.lit 125))) 0) (.lit 1))) (.lit 3)) (.hI 14 (.var 14) (.add (.add (.var 15) (.mul (.var 60) (.lit 125))) (.lit 1)) 0) (.var 64)), .int .u64 (.ite (.eq (.wrap .i64 (.sub (.hI 14 (.var 14) (.add (.var 15) (.mul (.var 60) (.lit 125))) 0) (.lit 1))) (.lit 4)) (.hI 14 (.var 14) (.add (.add (.var 15) (.mul (.var 60) (.lit 125))) (.lit 1)) 0) (.var 65)), .int .u64 (.ite (.eq (.wrap .i64 (.sub (.hI 14 (.var 14) (.add (.var 15) (.mul (.var 60) (.lit 125))) 0) (.lit 1))) (.lit 5)) (.hI 14 (.var 14) (.add (.add (.var 15) (.mul (.var 60) (.lit 125))) (.lit 1)) 0) (.var 66))]
theorem sM_ev (q : Env) : (SV.agg sM).ev q = vecV (vecT (valI ((q.h 14).cell (q.i 14).toNat (q.i 15 + q.i 60 * 125).toNat)) (valI ((q.h 14).cell (q.i 14).toNat (q.i 15 + q.i 60 * 125 + 1).toNat)) q) := by
  unfold sM vecT vecV
  simp only [SV.ev, List.map_cons, List.map_nil, CV.ev, iev_ite, bT_eq, iev_wrap, iev_sub, iev_hI, iev_var, iev_add, iev_mul, iev_lit, Nat.add_zero]
def sA0 : List As := ([⟨60, 0, .int .i64 (.lit 0)⟩] : List As) ++ (mLd 37 (Sx.ckCVs 61 v6s) (Sx.ckCVs 0 v6s))
def sA1 : List As := ([⟨60, 0, .int .i64 (.wrap .i64 (.add (.var 60) (.lit 1)))⟩] : List As) ++ (mLd 37 (Sx.ckCVs 61 v6s) sM)
def stepsInv (V : List Int) : Nat → Env → Prop := fun _ q => ∃ (i : Nat) (out : List Hd) (outRows : List (List Value)), q.i 60 = i ∧ i ≤ out.length ∧ RdRows (q.h 14) (outV q) hkd outRows ∧ HdAll (q.h 14) outRows out ∧ vecQ q 61 = (out.take i).foldl bump V
set_option maxRecDepth 20000 in
set_option maxHeartbeats 4000000 in
theorem stepsS_ok : stepsS.OK Try.prog := by
  refine Spec.of_fn (Γ := sΓ) sΓ_ok ?_
  rintro xs Hs Rs hl1 hl2 ⟨vv, u, R, rows, rfl, rfl, hv6, hRd, hgiv⟩
  have e0 : Hs = [] := List.length_eq_zero_iff.1 hl1
  subst e0
  match vv, hv6 with
  | [a0, a1, a2, a3, a4, a5], _ =>
  obtain ⟨x, y, c, rfl, hy, hrows⟩ := id hRd
  refine ⟨stepsW, envI [a0, a1, a2, a3, a4, a5, x, y, rows.length, c] false [Hl.none, Hl.none, Hl.none, Hl.none, Hl.none, Hl.none, Hl.none, Hl.none, Hl.none, Hl.none, R], stepsInv [a0, a1, a2, a3, a4, a5], fun _ q => (q.i 16 - q.i 60).toNat, ?_, ⟨?_, ?_, ?_, ?_⟩, (fun _ h => nomatch h), ?_⟩
  · show [vecV [a0, a1, a2, a3, a4, a5], Value.slice (slP x y) ((rows.length : Int)).toNat ((c : Int)).toNat] = _
    rw [Int.toNat_natCast, Int.toNat_natCast]
  · intro r hr ho; simp [stepsW] at hr; subst hr; cases ho
  · intro r hr ho; simp [stepsW] at hr; subst hr; exact ⟨R, by simp, Hl.le_refl _⟩
  · simp [stepsW, Res.own]
  · intro r hr; simp [stepsW] at hr; subst hr; trivial
  · show Nd.holds _ _ _ stepsNd
    unfold stepsNd
    generalize hρ : envI [a0, a1, a2, a3, a4, a5, x, y, rows.length, c] false [Hl.none, Hl.none, Hl.none, Hl.none, Hl.none, Hl.none, Hl.none, Hl.none, Hl.none, Hl.none, R] = ρ
    have v0 : vecQ ρ 0 = [a0, a1, a2, a3, a4, a5] := by rw [← hρ]; rfl
    have v6 : ρ.i 6 = x := by rw [← hρ]; rfl
    have v7 : ρ.i 7 = y := by rw [← hρ]; rfl
    have v8 : ρ.i 8 = rows.length := by rw [← hρ]; rfl
    have v9 : ρ.i 9 = c := by rw [← hρ]; rfl
    have w10 : ρ.h 10 = R := by rw [← hρ]; rfl
    clear hρ
    generalize hV : [a0, a1, a2, a3, a4, a5] = V at *
    have hV6 : V.length = 6 := by rw [← hV]; rfl
    have yes : ∀ (q : Env) (mem : Mem) (e : E), bev q e = true → postOf stepsS [vecV V, .slice (slP x y) rows.length c] [] [R] q mem (.sv (.one (.bool e))) := fun q mem e he =>
      outOf rfl (v := .bool true) (by show Value.bool (bev q e) = _; rw [he]) (shB rfl _) rfl
    have vag : ∀ {q q' : Env} {n m : Nat}, Agree m q q' → n + 6 ≤ m → vecQ q' n = vecQ q n := by
      intro q q' n m a h
      unfold vecQ
      rw [a.i n (by omega), a.i (n + 1) (by omega), a.i (n + 2) (by omega), a.i (n + 3) (by omega), a.i (n + 4) (by omega), a.i (n + 5) (by omega)]
    simp only [Nd.holds, X.pre, X.rel, X.n, Src.ok, Src.len, Src.vals, true_and, and_true, if_true, Nat.mul_one, Nat.add_zero, Nat.reduceAdd, List.length_cons, List.length_nil, bT_tt, bT_ff, bT_bvar, bT_not, bT_and, bT_or, bT_ite, bT_lt, bT_le, bT_eq, bT_beq, bT_seq, bT_hB, bT_his, bT_hby, bT_hism, bT_hks, iev_lit, iev_var, iev_add, iev_sub, iev_mul, iev_wrap, iev_ite, iev_hI, iev_hP, iev_hmlen, sev_ite, sev_slit, sev_sof, sev_svar, TV.ev, SV.ev, CV.ev, List.map_cons, List.map_nil, Res.hl, cpTV, Cp.sv, Ck.cv, cpSVs, Cp.len, Ck.len, newHs_zero, newHs_one, roots_ne, sg0, sg1, sg2, sg3, sg4, sg5, sr0, sr1, sr2, sr3, ar0, ar1, sc2]
    intro q1 g1 _
    have awk : ∀ (q' : Env) (n : Nat) {F : Hl}, awakeS.post [] [] [] (Value.bool (bev q' (E.bvar n))) [] F → bev q' (E.bvar n) = true := by
      intro q' n F h
      have h : Value.bool (bev q' (E.bvar n)) = .bool true := h
      simpa using h
    have lq : ∀ q', Agree 11 ρ q' → Value.slice (slP (q'.i 6) (q'.i 7)) (q'.i 8).toNat (q'.i 9).toNat = .slice (slP x y) rows.length c := by
      intro q' a
      rw [a.i 6 (by omega), a.i 7 (by omega), a.i 8 (by omega), a.i 9 (by omega), v6, v7, v8, v9, Int.toNat_natCast, Int.toNat_natCast]
    refine ⟨rfl, fun q2 g2 ⟨F2, hp2, _, _⟩ => ?_⟩
    have hb2 : q2.b 12 = true := awk q2 12 hp2
    have P2 : Agree 11 ρ q2 := g1.trans (g2.mono (by omega))
    rw [hb2, lq q2 P2, P2.h 10 (by omega), w10]
    refine ⟨fun _ => ⟨⟨_, 30, R, rows, rfl, rfl, hRd⟩, fun q3 g3 ⟨F3, ⟨u3, n3, R3, rows3, b3, hx3, hR3, hRd3, hv3, hb3⟩, _, _⟩ => ?_⟩, fun h => absurd rfl h⟩
    have hx3 : Value.slice (slP x y) rows.length c = u3 ∧ 30 = n3 := by
      have h1 : [Value.slice (slP x y) rows.length c, Value.int .i64 30] = [u3, .int .i64 n3] := hx3
      simpa using h1
    obtain ⟨ha, hb⟩ := hx3
    subst ha hb
    have hR3 : R = R3 := by simpa using hR3
    subst hR3
    have e := hRd.uniq hRd3
    subst e
    have hv3 : q3.b 13 = b3 := by
      have h1 : Value.bool (q3.b 13) = .bool b3 := hv3
      simpa using h1
    rw [hv3]
    have P3 : Agree 11 ρ q3 := P2.trans (g3.mono (by omega))
    refine ⟨fun _ => ⟨rfl, fun q4 g4 ⟨F4, hp4, _, _⟩ => yes q4 _ _ (awk q4 14 hp4)⟩, fun hb => ?_⟩
    obtain ⟨hl30, hfew⟩ := hb3 hb (by decide)
    obtain ⟨hs, hAll⟩ := hdAll_of fun row hr => hgiv row hr (hfew row hr)
    have eV3 : vecQ q3 0 = V := by rw [vag P3 (by omega), v0]
    rw [lq q3 P3, P3.h 10 (by omega), w10]
    refine ⟨⟨vecQ q3 0, _, R, R, rows, hs, rfl, rfl, rfl, hRd, hAll, by omega⟩, fun q4 g4 ⟨F4, hp4, hF4, ⟨n14, n15, n16, n17⟩, _⟩ => fun q5 g5 _ => ?_⟩
    have hF4 := hF4 trivial
    obtain ⟨s4, out, outRows, v', _, hr4, hC, hfin, hOr, hOa⟩ := order_post (v := vecQ q3 0) hRd hAll hp4
    rw [eV3] at hC
    have hr4 : Value.tuple #[outV q4, vecV (vecQ q4 18)] = .tuple #[s4, vecV v'] := hr4
    have hr4 : outV q4 = s4 ∧ vecV (vecQ q4 18) = vecV v' := by simpa using hr4
    obtain ⟨hs4, hv4⟩ := hr4
    have hv4 := vecV_inj hv4
    subst hs4
    subst hv4
    rw [← hF4] at hOr hOa
    have P4 : Agree 11 ρ q4 := P3.trans (g4.mono (by omega))
    have P5 : Agree 11 ρ q5 := P4.trans (g5.mono (by omega))
    have e18 : vecQ q5 18 = vecQ q4 18 := vag g5 (by omega)
    rw [lq q5 P5, P5.h 10 (by omega), w10]
    refine ⟨⟨vecQ q5 18, _, R, R, rows, hs, rfl, rfl, rfl, hRd, hAll, by omega⟩, fun q6 g6 ⟨F6, hp6, hF6, ⟨n25, n26, n27, n28⟩, _⟩ => fun q7 g7 _ q8 g8 _ => ?_⟩
    obtain ⟨s6, out6, outRows6, v6', _, hr6, hC6, _, hOr6, hOa6⟩ := order_post (v := vecQ q5 18) hRd hAll hp6
    have hr6 : Value.tuple #[Value.slice (slP (q6.i 25) (q6.i 26)) (q6.i 27).toNat (q6.i 28).toNat, vecV (vecQ q6 29)] = .tuple #[s6, vecV v6'] := hr6
    have hr6 : Value.slice (slP (q6.i 25) (q6.i 26)) (q6.i 27).toNat (q6.i 28).toNat = s6 ∧ vecV (vecQ q6 29) = vecV v6' := by simpa using hr6
    rw [e18] at hC6
    obtain ⟨hn6, hvv6⟩ := hC6.none hfin
    subst hn6
    have n14 : -1 ≤ q4.i 14 := n14
    have n15 : 0 ≤ q4.i 15 := n15
    have n16 : 0 ≤ q4.i 16 := n16
    have n27 : 0 ≤ q6.i 27 := n27
    obtain ⟨e16, hat⟩ := rd_at hOr n14 n15 n16
    rw [hOa.1] at e16
    have hl30' := hC.few hV6
    have hhs : rows.length = hs.length := hAll.1
    have h27 : q6.i 27 = 0 := by
      have hr0 : outRows6 = [] := List.length_eq_zero_iff.1 hOa6.1
      obtain ⟨ax, ay, ac, ae, _⟩ := hOr6
      rw [← hr6.1, hr0] at ae
      simp only [Value.slice.injEq, List.length_nil] at ae
      omega
    have hv29 : vecQ q6 29 = vecQ q4 18 := (vecV_inj hr6.2).trans hvv6
    have A8 : Agree 24 q4 q8 := g5.trans ((g6.mono (by omega)).trans ((g7.mono (by omega)).trans (g8.mono (by omega))))
    have P8 : Agree 11 ρ q8 := P4.trans (A8.mono (by omega))
    have oV : ∀ q', Agree 24 q4 q' → outV q' = outV q4 := by
      intro q' a
      unfold outV
      rw [a.i 14 (by omega), a.i 15 (by omega), a.i 16 (by omega), a.i 17 (by omega)]
    refine ⟨?_, fun q g hI => ?_⟩
    · show stepsInv V 0 (assign q8 sA0 [])
      have hg : goodA 37 sA0 [] = true := by kernel_rfl
      have ag := assign_old (ρ := q8) hg
      have est : (SV.agg (Sx.ckCVs 61 v6s)).ev (assign q8 sA0 []) = (SV.agg (Sx.ckCVs 0 v6s)).ev q8 := assign_ag (n0 := 37) (ρ := q8) (A := sA0) (hs := []) (l := Sx.ckCVs 61 v6s) (m := Sx.ckCVs 0 v6s) hg (by kernel_rfl) (fun y hy => List.mem_append_right _ hy)
      have est : vecQ (assign q8 sA0 []) 61 = vecQ q8 0 := vecV_inj est
      rw [vag P8 (by omega), v0] at est
      have e60 : (assign q8 sA0 []).i 60 = 0 := rfl
      generalize assign q8 sA0 [] = qn at ag est e60
      have An : Agree 24 q4 qn := A8.trans (ag.mono (by omega))
      refine ⟨0, out, outRows, e60, Nat.zero_le _, ?_, ?_, by rw [est]; rfl⟩
      · rw [oV qn An, An.h 14 (by omega)]; exact hOr
      · rw [An.h 14 (by omega)]; exact hOa
    obtain ⟨i, out', outRows', e60, hi, hOr', hOa', hvec⟩ := hI
    have Q : Agree 24 q4 q := A8.trans (g.mono (by omega))
    rw [oV q Q, Q.h 14 (by omega)] at hOr'
    have e := hOr.uniq hOr'
    subst e
    rw [Q.h 14 (by omega)] at hOa'
    have e := hOa.uniq hOa'
    subst e
    rw [Q.i 14 (by omega), Q.i 15 (by omega), Q.i 16 (by omega), Q.h 14 (by omega), e60, e16]
    refine ⟨by omega, fun hlt => ?_, fun hge => ?_⟩
    · obtain ⟨row, hrow⟩ : ∃ r, outRows[i]? = some r := ⟨_, List.getElem?_eq_getElem (by rw [hOa.1]; omega)⟩
      obtain ⟨p14, okr, cr⟩ := hat i row hrow
      obtain ⟨h, hh, xh⟩ := hOa.at hrow
      have cr' : ∀ j u, row[j]? = some u → (q4.h 14).cell (q4.i 14).toNat ((q4.i 15 + (i : Int) * 125).toNat + j) = some u := fun j u hu => by
        rw [← cr j u hu, hkd_len]; congr 1; omega
      have erow : List.map (CV.ev q) (romCells 14 (.var 14) (.add (.var 15) (.mul (.var 60) (.lit 125))) 0 hkd) = row := by
        refine romCells_row row hkd 0 okr fun j u hu => ?_
        simp only [iev_var, iev_add, iev_mul, iev_lit]
        rw [Q.h 14 (by omega), Q.i 14 (by omega), Q.i 15 (by omega), e60, Nat.zero_add]
        exact cr' j u hu
      rw [erow]
      refine ⟨p14, n15, by omega, rowIs_of _ okr cr', ⟨vecQ q 61, row, h, q4.h 14, rfl, rfl, rfl, xh⟩, fun q9 g9 ⟨F9, hp9, _, _⟩ => ?_⟩
      have hrd := hC.ready i h hh
      have hb9 : q9.b 70 = true := by
        have h1 : Value.bool (q9.b 70) = .bool (readyB (vecQ q 61) h) := ready_post xh (v := vecQ q 61) hp9
        rw [hvec, hrd] at h1
        simpa using h1
      rw [hb9]
      obtain ⟨_, hw, _, _⟩ := ready_next hrd
      obtain ⟨c0v, hc0, his0⟩ := rowOK_get (j := 0) (k := .int .i64) okr rfl
      obtain ⟨c1v, hc1, his1⟩ := rowOK_get (j := 1) (k := .int .u64) okr rfl
      obtain ⟨n0, rfl⟩ := int_of his0
      obtain ⟨n1, rfl⟩ := int_of his1
      have ew : h.w = n0 := by
        unfold Hd.w
        rw [xh.core, core_I (by decide)]
        unfold cI
        rw [hc0]; rfl
      have es : h.seq = n1 := by
        unfold Hd.seq
        rw [xh.core, core_I (by decide)]
        unfold cI
        rw [hc1]; rfl
      have Q9 : Agree 24 q4 q9 := Q.trans (g9.mono (by omega))
      have d0 : (q9.h 14).cell (q9.i 14).toNat (q9.i 15 + q9.i 60 * 125).toNat = some (.int .i64 n0) := by
        rw [Q9.h 14 (by omega), Q9.i 14 (by omega), Q9.i 15 (by omega), g9.i 60 (by omega), e60]
        have := cr' 0 _ hc0
        rw [Nat.add_zero] at this
        exact this
      have d1 : (q9.h 14).cell (q9.i 14).toNat (q9.i 15 + q9.i 60 * 125 + 1).toNat = some (.int .u64 n1) := by
        rw [Q9.h 14 (by omega), Q9.i 14 (by omega), Q9.i 15 (by omega), g9.i 60 (by omega), e60]
        have := cr' 1 _ hc1
        rw [show (q4.i 15 + (i : Int) * 125 + 1).toNat = (q4.i 15 + (i : Int) * 125).toNat + 1 by omega]
        exact this
      refine ⟨fun h => absurd rfl h, fun _ => ?_⟩
      rw [d0, d1]
      have wr : IntKind.i64.wrap (valI (some (Value.int .i64 n0)) - 1) = n0 - 1 := by
        show IntKind.i64.wrap (n0 - 1) = _
        rw [wrap_i64 (by omega) (by omega)]
      rw [wr]
      have hg : goodA 37 sA1 [] = true := by kernel_rfl
      have ag := assign_old (ρ := q9) hg
      have est : (SV.agg (Sx.ckCVs 61 v6s)).ev (assign q9 sA1 []) = (SV.agg sM).ev q9 := assign_ag (n0 := 37) (ρ := q9) (A := sA1) (hs := []) (l := Sx.ckCVs 61 v6s) (m := sM) hg (by kernel_rfl) (fun y hy => List.mem_append_right _ hy)
      rw [sM_ev, d0, d1] at est
      have est : vecQ (assign q9 sA1 []) 61 = vecT n0 n1 q9 := vecV_inj est
      rw [← ew, ← es, vecT_bump hw, vag g9 (by omega), hvec] at est
      have e60' : (assign q9 sA1 []).i 60 = i + 1 := by
        show IntKind.i64.wrap (q9.i 60 + 1) = _
        rw [g9.i 60 (by omega), e60, wrap_i64 (by omega) (by omega)]
      refine ⟨rfl, rfl, ?_⟩
      show 0 ≤ n0 - 1 ∧ n0 - 1 < 6 ∧ (0 ≤ n0 - 1 ∧ n0 - 1 < 6) ∧ stepsInv V 0 (assign q9 sA1 []) ∧ ((assign q9 sA1 []).i 16 - (assign q9 sA1 []).i 60).toNat < ((out.length : Int) - i).toNat
      generalize assign q9 sA1 [] = qn at ag est e60'
      have An : Agree 24 q4 qn := Q9.trans (ag.mono (by omega))
      refine ⟨by omega, by omega, ⟨by omega, by omega⟩, ⟨i + 1, out, outRows, by rw [e60']; omega, by omega, ?_, ?_, ?_⟩, by rw [e60', An.i 16 (by omega), e16]; omega⟩
      · rw [oV qn An, An.h 14 (by omega)]; exact hOr
      · rw [An.h 14 (by omega)]; exact hOa
      · rw [est, List.take_add_one, hh, Option.toList_some, List.foldl_append]; rfl
    · have hil : i = out.length := by omega
      have e61 : vecQ q 61 = vecQ q 18 := by
        rw [hvec, hil, List.take_length, ← hC.fold, vag Q (by omega)]
      have Q6 : Agree 35 q6 q := (g7.trans (g8.mono (by omega))).trans (g.mono (by omega))
      have e29 : vecQ q 29 = vecQ q 18 := by
        rw [vag Q6 (by omega), hv29, vag Q (by omega)]
      have six : ∀ {a b : Nat}, vecQ q a = vecQ q b → q.i a = q.i b ∧ q.i (a + 1) = q.i (b + 1) ∧ q.i (a + 2) = q.i (b + 2) ∧ q.i (a + 3) = q.i (b + 3) ∧ q.i (a + 4) = q.i (b + 4) ∧ q.i (a + 5) = q.i (b + 5) := by
        intro a b h
        unfold vecQ at h
        simpa using h
      have P : Agree 11 ρ q := P8.trans (g.mono (by omega))
      obtain ⟨m1, m2⟩ := hC.miss hV6 (by omega)
      have eV : vecQ q 0 = V := by rw [vag P (by omega), v0]
      have e18q : vecQ q 18 = vecQ q4 18 := vag Q (by omega)
      rw [Q6.i 27 (by omega), h27]
      refine ⟨fun _ => ⟨Int.le_refl 0, fun _ => ⟨fun _ => ⟨⟨vecQ q 18, vecQ q 0, rfl, rfl, rfl⟩, fun q9 g9 ⟨F9, hp9, _, _⟩ => ?_⟩, fun h => absurd (six e29) h⟩, fun h => absurd rfl h⟩, fun h => absurd (six e61) h⟩
      have hb9 : q9.b 70 = true := by
        have h1 : Value.bool (q9.b 70) = .bool (greatL2 (vecQ q 18) (vecQ q 0)) := vec_post (a := vecQ q 18) (b := vecQ q 0) hp9
        rw [e18q, eV, m1] at h1
        simpa using h1
      rw [hb9]
      refine ⟨fun _ => ⟨⟨vecQ q9 0, vecQ q9 18, rfl, rfl, rfl⟩, fun q10 g10 ⟨F10, hp10, _, _⟩ => yes q10 _ _ ?_⟩, fun h => absurd rfl h⟩
      have h10 : Value.int .u64 (q10.i 71) = .int .u64 (missL (vecQ q9 0) (vecQ q9 18)) := vec_post (a := vecQ q9 0) (b := vecQ q9 18) hp10
      rw [vag (g9) (by omega), vag (g9) (by omega), eV, e18q, m2] at h10
      have h10 : q10.i 71 = out.length := by simpa using h10
      rw [bT_eq, iev_var, iev_wrap, iev_var, h10, g10.i 16 (by omega), g9.i 16 (by omega), Q.i 16 (by omega), e16, wu (by omega) (by omega)]
end Go.Proofs.Ytnlejejjeilpoaa.V2
