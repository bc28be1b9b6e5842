/- few; tokens cloned; Ready: contracts. -/
import Derived.Test.YtnlejejjeilpoaaVfC
set_option linter.unusedSimpArgs false
set_option linter.unusedVariables false
set_option linter.constructorNameAsVariable false
namespace Go.Proofs.Ytnlejejjeilpoaa.V2
open Go Go.Sx


/-! ### Ready -/
def Hd.knows (h : Hd) : List Int := [h.know 0, h.know 1, h.know 2, h.know 3, h.know 4, h.know 5]
noncomputable def readyB (v : List Int) (h : Hd) : Bool := h.form && (decide (v.getD (h.w - 1).toNat 0 = h.seq - 1) && greatL2 v h.knows)
theorem plS {ρ : Ex.Env} (h : ¬ Ex.bev ρ ePL = true) : 1 ≤ ρ.i 1 ∧ ρ.i 1 ≤ 1048576 := by
  have h : ¬ (Ex.bev ρ (match rE with | .and (.not (.or (.or (.or (.not (.and (.not (.or a _)) _)) _) _) _)) _ => a | _ => .tt) = true) := h
  simp only [rE, fE, Ex.bT_or, Ex.bT_lt, Ex.iev_var, Ex.iev_lit] at h
  omega
theorem Hd.form_bd {h : Hd} (hf : h.form = true) : (1 ≤ h.w ∧ h.w ≤ 6) ∧ 1 ≤ h.seq ∧ h.seq ≤ 1048576 := by
  unfold Hd.form at hf
  simp only [Bool.and_eq_true, Bool.not_eq_true'] at hf
  have hp : ¬ Ex.bev (en h.pt default) ePL = true := by rw [hf.1.1.1.1.1.1.1]; decide
  exact ⟨pl hp, plS hp⟩
noncomputable def readyS (rdl : List Nat) : Sx.Spec where
  fn := 15
  own := []
  rd := rdl
  res := [.one .bool]
  pre := fun xs Hs Rs => ∃ v row h R, xs = [vecV v, .agg row.toArray] ∧ Rs = [R] ∧ v.length = 6 ∧ IsHd R row h
  post := fun xs Hs Rs u Hs' F => ∃ v row h R, xs = [vecV v, .agg row.toArray] ∧ Rs = [R] ∧ IsHd R row h ∧ u = .bool (readyB v h)
theorem ready_post {rdl : List Nat} {v : List Int} {row : List Value} {h : Hd} {R : Hl} {u : Value} {Hs K : List Hl} {F : Hl} (x : IsHd R row h) (hp : (readyS rdl).post [vecV v, .agg row.toArray] Hs [R] u K F) : u = .bool (readyB v h) := by
  obtain ⟨v', row', h', R', e1, e2, x', hu⟩ := hp
  have e1 : vecV v = vecV v' ∧ Value.agg row.toArray = .agg row'.toArray := by simpa using e1
  have e2 : R = R' := by simpa using e2
  subst e2
  have er : row = row' := by simpa using e1.2
  subst er
  rw [hu, ← vecV_inj e1.1, x.uniq x']
def readyNd : Nd := .ext (.alloc 135) (.ext (.alloc 136) (.and (.pre (.call 1 137 [.sv (.agg (Sx.ckCVs 6 hk2))] [] [.ro 134 [] true])) (.ext (.call 1 137 [.sv (.agg (Sx.ckCVs 6 hk2))] [] [.ro 134 [] true]) (.and (.imp (.bvar 137) (.and (.e (.le (.lit 0) (.wrap .i64 (.sub (.var 6) (.lit 1))))) (.and (.e (.lt (.wrap .i64 (.sub (.var 6) (.lit 1))) (.lit 6))) (.and (.imp (.eq (.ite (.eq (.wrap .i64 (.sub (.var 6) (.lit 1))) (.lit 0)) (.var 0) (.ite (.eq (.wrap .i64 (.sub (.var 6) (.lit 1))) (.lit 1)) (.var 1) (.ite (.eq (.wrap .i64 (.sub (.var 6) (.lit 1))) (.lit 2)) (.var 2) (.ite (.eq (.wrap .i64 (.sub (.var 6) (.lit 1))) (.lit 3)) (.var 3) (.ite (.eq (.wrap .i64 (.sub (.var 6) (.lit 1))) (.lit 4)) (.var 4) (.var 5)))))) (.wrap .u64 (.sub (.var 7) (.lit 1)))) (.and (.pre (.call 0 138 [.sv (.agg (Sx.ckCVs 0 v6s)), .sv (.agg (Sx.ckCVs 63 v6s))] [] [])) (.ext (.call 0 138 [.sv (.agg (Sx.ckCVs 0 v6s)), .sv (.agg (Sx.ckCVs 63 v6s))] [] []) (.post [.ro 134 [] true, .dead, .dead] (.sv (.one (.bool (.bvar 138)))))))) (.imp (.not (.eq (.ite (.eq (.wrap .i64 (.sub (.var 6) (.lit 1))) (.lit 0)) (.var 0) (.ite (.eq (.wrap .i64 (.sub (.var 6) (.lit 1))) (.lit 1)) (.var 1) (.ite (.eq (.wrap .i64 (.sub (.var 6) (.lit 1))) (.lit 2)) (.var 2) (.ite (.eq (.wrap .i64 (.sub (.var 6) (.lit 1))) (.lit 3)) (.var 3) (.ite (.eq (.wrap .i64 (.sub (.var 6) (.lit 1))) (.lit 4)) (.var 4) (.var 5)))))) (.wrap .u64 (.sub (.var 7) (.lit 1))))) (.post [.ro 134 [] true, .dead, .dead] (.sv (.one (.bool .ff))))))))) (.imp (.not (.bvar 137)) (.post [.ro 134 [] true, .dead, .dead] (.sv (.one (.bool .ff)))))))))
noncomputable def rΓ : List Sx.Spec := [greatS2, eFormS]
theorem rΓ_ok : ∀ t ∈ rΓ, t.OK Try.prog := fun t ht => by
  simp only [rΓ, List.mem_cons, List.mem_nil_iff, or_false] at ht
  rcases ht with rfl | rfl
  · exact greatS2_ok
  · exact eFormS_ok
theorem rg0 : rΓ[0]? = some greatS2 := rfl
theorem rg1 : rΓ[1]? = some eFormS := rfl
theorem rr1 : eFormS.res = [.one .bool] := rfl
noncomputable def readyW : Walk Try.prog rΓ 15 where
  Λ := noLoops
  args := [.sv (.agg (Sx.ckCVs 0 v6s)), .sv (.agg (Sx.ckCVs 6 hk2))]
  mem := [.ro 134 [] true]
  nv := 135
  nd := readyNd
  ok := by kernel_rfl
set_option maxRecDepth 20000 in
theorem readyS_ok {rdl : List Nat} (hr : rdl.length = 1) : (readyS rdl).OK Try.prog := by
  refine Spec.of_fn (Γ := rΓ) rΓ_ok ?_
  rintro xs Hs Rs hl1 hl2 ⟨vv, row, h, R, rfl, rfl, hv6, x⟩
  have e0 : Hs = [] := List.length_eq_zero_iff.1 hl1
  subst e0
  match vv, hv6 with
  | [a0, a1, a2, a3, a4, a5], _ =>
    obtain ⟨ρ, a, e2, _⟩ := row_envN x.ok 6 (envI [a0, a1, a2, a3, a4, a5] false [])
    obtain ⟨ρ', hρ'⟩ : ∃ ρ' : Env, ρ' = ⟨ρ.i, ρ.b, ρ.s, ρ.v, fun k => if k = 134 then R else Hl.none⟩ := ⟨_, rfl⟩
    have v : ∀ k, k < 6 → ρ'.i k = [a0, a1, a2, a3, a4, a5].getD k 0 := by
      intro k hk
      rw [hρ']
      show ρ.i k = _
      rw [a.i k hk]; rfl
    have eR : ρ'.h 134 = R := by rw [hρ']; rfl
    have er : rowN ρ' 6 = row := by rw [e2, hρ']; rfl
    have ev : vecQ ρ' 0 = [a0, a1, a2, a3, a4, a5] := by
      unfold vecQ
      rw [v 0 (by omega), v 1 (by omega), v 2 (by omega), v 3 (by omega), v 4 (by omega), v 5 (by omega)]; rfl
    clear hρ' e2 a
    refine ⟨readyW, ρ', fun _ _ => True, fun _ _ => 0, ?_, ⟨?_, ?_, ?_, ?_⟩, (fun _ h => nomatch h), ?_⟩
    · show [vecV (vecQ ρ' 0), Value.agg (rowN ρ' 6).toArray] = _
      rw [ev, er]
    · intro r hr ho; simp [readyW] at hr; subst hr; cases ho
    · intro r hr ho; simp [readyW] at hr; subst hr; exact ⟨R, by simp, by show (ρ'.h 134).le R; rw [eR]; exact Hl.le_refl _⟩
    · simp [readyW, Res.own]
    · intro r hr; simp [readyW] at hr; subst hr; trivial
    · show Nd.holds _ _ _ readyNd
      unfold readyNd
      have out : ∀ (q : Env) (mem : Mem) (e : E), bev q e = readyB [a0, a1, a2, a3, a4, a5] h → postOf (readyS rdl) [vecV [a0, a1, a2, a3, a4, a5], .agg row.toArray] [] [R] q mem (.sv (.one (.bool e))) := fun q mem e he =>
        outOf rfl (v := .bool (readyB [a0, a1, a2, a3, a4, a5] h)) (by show Value.bool (bev q e) = _; rw [he]) (shB rfl _) ⟨_, row, h, R, rfl, rfl, x, rfl⟩
      have cw : h.w = ρ'.i 6 := by
        unfold Hd.w
        rw [x.core, core_I (by decide), ← er, rowN_lo (by decide) (by decide)]
      have cs : h.seq = ρ'.i 7 := by
        unfold Hd.seq
        rw [x.core, core_I (by decide), ← er, rowN_lo (by decide) (by decide)]
      have ck : ∀ k, k < 6 → h.know k = ρ'.i (63 + k) := by
        intro k hk
        unfold Hd.know
        rw [x.core, core_I (by omega), ← er, rowN_hi (by omega) (by omega)]
        congr 1; omega
      simp only [Nd.holds, X.pre, X.rel, X.n, Src.ok, Src.len, Src.vals, true_and, and_true, if_true, Nat.mul_one, Nat.add_zero, Nat.reduceAdd, List.length_cons, List.length_nil, bT_tt, bT_ff, bT_bvar, bT_not, bT_and, bT_or, bT_ite, bT_lt, bT_le, bT_eq, bT_beq, bT_seq, bT_hB, bT_his, bT_hby, bT_hism, bT_hks, iev_lit, iev_var, iev_add, iev_sub, iev_mul, iev_wrap, iev_ite, iev_hI, iev_hP, iev_hmlen, sev_ite, sev_slit, sev_sof, sev_svar, TV.ev, SV.ev, CV.ev, List.map_cons, List.map_nil, Res.hl, cpTV, Cp.sv, Ck.cv, cpSVs, Cp.len, Ck.len, newHs_zero, newHs_one, roots_ne, rg0, rg1, ar0, rr1]
      intro q1 g1 _ q2 g2 _
      have P2 : Agree 135 ρ' q2 := g1.trans (g2.mono (by omega))
      have er2 : rowN q2 6 = row := by rw [rowN_ag P2 (by decide), er]
      refine ⟨⟨row, h, R, by rw [← er2]; rfl, by rw [P2.h 134 (by omega), eR], x⟩, fun q3 g3 ⟨F3, hp3, _, _⟩ => ?_⟩
      have hb3 : q3.b 137 = h.form := by
        obtain ⟨row', h', R', e1, e2, x', hu⟩ := hp3
        have e1 : Value.agg (rowN q2 6).toArray = .agg row'.toArray := by
          have h1 : [Value.agg (rowN q2 6).toArray] = [.agg row'.toArray] := e1
          simpa using h1
        have e2 : q2.h 134 = R' := by simpa using e2
        rw [P2.h 134 (by omega), eR] at e2
        subst e2
        have er : rowN q2 6 = row' := by simpa using e1
        rw [← er, er2] at x'
        have hu : Value.bool (q3.b 137) = .bool h'.form := hu
        rw [← x.uniq x'] at hu
        simpa using hu
      rw [hb3]
      have P3 : Agree 135 ρ' q3 := P2.trans (g3.mono (by omega))
      refine ⟨fun hf => ?_, fun hf => out _ _ _ (by unfold readyB; simp only [Bool.not_eq_true] at hf; rw [hf]; rfl)⟩
      obtain ⟨⟨w1, w2⟩, s1, s2⟩ := Hd.form_bd hf
      have wr : IntKind.i64.wrap (ρ'.i 6 - 1) = h.w - 1 := by rw [← cw, wrap_i64 (by omega) (by omega)]
      have sr : IntKind.u64.wrap (ρ'.i 7 - 1) = h.seq - 1 := by
        rw [← cs]
        show Int.emod (h.seq - 1) 18446744073709551616 = h.seq - 1
        exact Int.emod_eq_of_lt (by omega) (by omega)
      have idx : (if h.w - 1 = 0 then [a0, a1, a2, a3, a4, a5].getD 0 0 else if h.w - 1 = 1 then [a0, a1, a2, a3, a4, a5].getD 1 0 else if h.w - 1 = 2 then [a0, a1, a2, a3, a4, a5].getD 2 0 else if h.w - 1 = 3 then [a0, a1, a2, a3, a4, a5].getD 3 0 else if h.w - 1 = 4 then [a0, a1, a2, a3, a4, a5].getD 4 0 else [a0, a1, a2, a3, a4, a5].getD 5 0) = [a0, a1, a2, a3, a4, a5].getD (h.w - 1).toNat 0 := by
        rcases (by omega : h.w = 1 ∨ h.w = 2 ∨ h.w = 3 ∨ h.w = 4 ∨ h.w = 5 ∨ h.w = 6) with e | e | e | e | e | e <;> rw [e] <;> rfl
      rw [P3.i 6 (by omega), P3.i 7 (by omega), wr, sr, P3.i 0 (by omega), P3.i 1 (by omega), P3.i 2 (by omega), P3.i 3 (by omega), P3.i 4 (by omega), P3.i 5 (by omega), v 0 (by omega), v 1 (by omega), v 2 (by omega), v 3 (by omega), v 4 (by omega), v 5 (by omega)]
      rw [idx]
      refine ⟨by omega, by omega, fun hq => ⟨⟨vecQ q3 0, vecQ q3 63, rfl, rfl, rfl⟩, fun q4 g4 ⟨F4, hp4, _, _⟩ => out _ _ _ ?_⟩, fun hq => out _ _ _ ?_⟩
      · have h4 : Value.bool (bev q4 (.bvar 138)) = .bool (greatL2 (vecQ q3 0) (vecQ q3 63)) := vec_post (a := vecQ q3 0) (b := vecQ q3 63) hp4
        have e0 : vecQ q3 0 = [a0, a1, a2, a3, a4, a5] := by
          unfold vecQ
          rw [P3.i 0 (by omega), P3.i 1 (by omega), P3.i 2 (by omega), P3.i 3 (by omega), P3.i 4 (by omega), P3.i 5 (by omega)]
          exact ev
        have e1 : vecQ q3 63 = h.knows := by
          unfold vecQ Hd.knows
          rw [P3.i 63 (by omega), P3.i (63 + 1) (by omega), P3.i (63 + 2) (by omega), P3.i (63 + 3) (by omega), P3.i (63 + 4) (by omega), P3.i (63 + 5) (by omega), ck 0 (by omega), ck 1 (by omega), ck 2 (by omega), ck 3 (by omega), ck 4 (by omega), ck 5 (by omega)]
        rw [e0, e1] at h4
        unfold readyB
        rw [hf, decide_eq_true hq]
        simpa using h4
      · unfold readyB
        rw [hf, decide_eq_false hq]; rfl

/-! ### few -/
def fewS : Sx.Spec where
  fn := 17
  own := []
  rd := [0]
  res := [.one .bool]
  pre := fun xs Hs Rs => ∃ v n R rows, xs = [v, .int .i64 n] ∧ Rs = [R] ∧ RdRows R v hkd rows
  post := fun xs Hs Rs u Hs' F => ∃ v n R rows b, xs = [v, .int .i64 n] ∧ Rs = [R] ∧ RdRows R v hkd rows ∧ u = .bool b ∧ (b = true → n ≤ 100 → (rows.length : Int) ≤ n ∧ ∀ row ∈ rows, valP row[53]? 2 ≤ 20)
def fewNd : Nd := .and (.inv 0 [⟨10, 0, .int .i64 (.lit 0)⟩] []) (.havoc 0 0 6 (.and (.e (.le (.lit 0) (.var 2))) (.and (.imp (.lt (.var 10) (.var 2)) (.and (.imp (.lt (.var 10) (.lit 100)) (.and (.e (.le (.lit 0) (.var 0))) (.and (.e (.le (.lit 0) (.var 1))) (.and (.e (.le (.lit 0) (.var 10))) (.and (.e (.his 5 (.var 0) (.add (.add (.var 1) (.mul (.var 10) (.lit 125))) (.lit 53)) 0 .slice)) (.and (.e (.le (.lit 0) (.hP 5 (.var 0) (.add (.add (.var 1) (.mul (.var 10) (.lit 125))) (.lit 53)) 0 2))) (.and (.imp (.lt (.lit 20) (.hP 5 (.var 0) (.add (.add (.var 1) (.mul (.var 10) (.lit 125))) (.lit 53)) 0 2)) (.post [.ro 5 [.var 0] true] (.sv (.one (.bool .ff))))) (.imp (.not (.lt (.lit 20) (.hP 5 (.var 0) (.add (.add (.var 1) (.mul (.var 10) (.lit 125))) (.lit 53)) 0 2))) (.back 0 0 [⟨10, 0, .int .i64 (.wrap .i64 (.add (.var 10) (.lit 1)))⟩] []))))))))) (.imp (.not (.lt (.var 10) (.lit 100))) (.post [.ro 5 [.var 0] true] (.sv (.one (.bool (.le (.var 2) (.var 4))))))))) (.imp (.not (.lt (.var 10) (.var 2))) (.post [.ro 5 [.var 0] true] (.sv (.one (.bool (.le (.var 2) (.var 4))))))))))
def fewW : Walk Try.prog [] fewS.fn where
  Λ := fun p => if lp p then some ⟨0, [(5, TI .i64 (.var 10))], [], 11⟩ else none
  args := [.sv (.one (.sl (.var 0) (.var 1) (.var 2) (.var 3))), TI .i64 (.var 4)]
  mem := [.ro 5 [.var 0] true]
  nv := 6
  nd := fewNd
  ok := by kernel_rfl
def fewInv (rows : List (List Value)) : Nat → Env → Prop := fun _ q => ∃ k : Nat, q.i 10 = k ∧ k ≤ rows.length ∧ ∀ j, j < k → ∀ row, rows[j]? = some row → valP row[53]? 2 ≤ 20
theorem valP_len (a : Option Addr) (l c : Nat) : valP (some (.slice a l c)) 2 = l := by rcases a with _ | ⟨b, o, _ | s⟩ <;> rfl
theorem hkd_len : hkd.length = 125 := rfl
theorem hkd_sl {row : List Value} (h : rowOK row hkd) : ∃ v, row[53]? = some v ∧ valIs (some v) .slice = true := by
  have key : ∀ (l : List Value) (ks : List Kd) (j : Nat), rowOK l ks → ∀ k, ks[j]? = some k → ∃ v, l[j]? = some v ∧ valIs (some v) k = true := by
    intro l
    induction l with
    | nil => intro ks j h k hk; cases ks with
      | nil => simp at hk
      | cons _ _ => exact h.elim
    | cons v l ih => intro ks j h k hk; cases ks with
      | nil => exact h.elim
      | cons k0 ks => cases j with
        | zero => simp only [List.getElem?_cons_zero, Option.some.injEq] at hk; subst hk; exact ⟨v, rfl, h.1⟩
        | succ j => exact ih ks j h.2 k (by simpa using hk)
  exact key row hkd 53 h .slice rfl
theorem fewS_ok : fewS.OK Try.prog := by
  refine Spec.of_fn (Γ := []) (fun _ h => by cases h) ?_
  rintro xs Hs Rs hl1 hl2 ⟨v, n, R, rows, rfl, rfl, hRd⟩
  have e0 : Hs = [] := List.length_eq_zero_iff.1 hl1
  subst e0
  obtain ⟨x, y, c, rfl, hy, hrows⟩ := id hRd
  refine ⟨fewW, envI [x, y, rows.length, c, n] false [Hl.none, Hl.none, Hl.none, Hl.none, Hl.none, R], fewInv rows, fun _ q => (rows.length - q.i 10).toNat, ?_, ⟨?_, ?_, ?_, ?_⟩, (fun _ h => nomatch h), ?_⟩
  · show [Value.slice (slP x y) ((rows.length : Int)).toNat ((c : Int)).toNat, Value.int .i64 n] = _
    rw [Int.toNat_natCast, Int.toNat_natCast]
  · intro r hr ho; simp [fewW] at hr; subst hr; cases ho
  · intro r hr ho; simp [fewW] at hr; subst hr; exact ⟨R, by simp, Hl.le_refl _⟩
  · simp [fewW]
  · intro r hr; simp [fewW] at hr; subst hr; trivial
  · show Nd.holds _ _ _ fewNd
    unfold fewNd
    generalize hρ : envI [x, y, rows.length, c, n] false [Hl.none, Hl.none, Hl.none, Hl.none, Hl.none, R] = ρ
    have v0 : ρ.i 0 = x := by rw [← hρ]; rfl
    have v1 : ρ.i 1 = y := by rw [← hρ]; rfl
    have v2 : ρ.i 2 = rows.length := by rw [← hρ]; rfl
    have v4 : ρ.i 4 = n := by rw [← hρ]; rfl
    have w5 : ρ.h 5 = R := by rw [← hρ]; rfl
    simp only [Nd.holds, X.pre, X.rel, X.n, Src.ok, Src.len, Src.vals, true_and, and_true, if_true, Nat.mul_one, Nat.add_zero, Nat.reduceAdd, List.length_cons, List.length_nil, bT_tt, bT_ff, bT_bvar, bT_not, bT_and, bT_or, bT_ite, bT_lt, bT_le, bT_eq, bT_beq, bT_seq, bT_hB, bT_his, bT_hby, bT_hism, bT_hks, iev_lit, iev_var, iev_add, iev_sub, iev_mul, iev_wrap, iev_ite, iev_hI, iev_hP, iev_hmlen, sev_ite, sev_slit, sev_sof, sev_svar, TV.ev, SV.ev, CV.ev, List.map_cons, List.map_nil, Res.hl]
    refine ⟨⟨0, rfl, Nat.zero_le _, fun j hj => by omega⟩, fun q g ⟨k, e10, hk, hall⟩ => ?_⟩
    rw [g.i 0 (by omega), v0, g.i 1 (by omega), v1, g.i 2 (by omega), v2, g.h 5 (by omega), w5, e10]
    have out : ∀ (q : Env) (mem : Mem) (e : E) (b : Bool), bev q e = b → (b = true → n ≤ 100 → (rows.length : Int) ≤ n ∧ ∀ row ∈ rows, valP row[53]? 2 ≤ 20) → postOf fewS [.slice (slP x y) rows.length c, .int .i64 n] [] [R] q mem (.sv (.one (.bool e))) := fun q mem e b he hb =>
      outOf rfl (v := .bool b) (by show Value.bool (bev q e) = _; rw [he]) (shB rfl _) ⟨_, n, R, rows, b, rfl, rfl, hRd, rfl, hb⟩
    have fin : ∀ (mem : Mem), (k < rows.length → 100 ≤ k) → postOf fewS [.slice (slP x y) rows.length c, .int .i64 n] [] [R] q mem (.sv (.one (.bool (.le (.var 2) (.var 4))))) := by
      intro mem hkk
      refine out q mem _ _ rfl fun hb hn => ?_
      rw [bT_le, iev_var, iev_var, g.i 2 (by omega), v2, g.i 4 (by omega), v4] at hb
      refine ⟨hb, fun row hr => ?_⟩
      obtain ⟨j, hj⟩ := List.getElem?_of_mem hr
      have hjl : j < rows.length := (List.getElem?_eq_some_iff.1 hj).1
      exact hall j (by omega) row hj
    refine ⟨by omega, fun hlt => ⟨fun h100 => ?_, fun h100 => fin _ (by omega)⟩, fun hge => fin _ (by omega)⟩
    obtain ⟨row, hrow⟩ : ∃ r, rows[k]? = some r := ⟨_, List.getElem?_eq_getElem (by omega)⟩
    rcases hrows with hr0 | ⟨hx0, hr⟩
    · subst hr0; simp at hrow
    obtain ⟨hok, hc⟩ := hr k row hrow
    obtain ⟨vs, hvs, his⟩ := hkd_sl hok
    have hcell : R.cell x.toNat (y + (k : Int) * 125 + 53).toNat = some vs := by
      rw [← hc 53 vs hvs, hkd_len]
      congr 1; omega
    rw [hcell]
    obtain ⟨a, l, c', rfl⟩ : ∃ a l c, vs = Value.slice a l c := by
      cases vs <;> simp [valIs] at his ⊢
    have m10 : (assign q [⟨10, 0, .int .i64 (.wrap .i64 (.add (.var 10) (.lit 1)))⟩] []).i 10 = k + 1 := by
      show IntKind.i64.wrap (q.i 10 + 1) = _
      rw [e10, wrap_i64 (by omega) (by omega)]
    refine ⟨hx0, hy, by omega, rfl, by rw [valP_len]; omega, fun h20 => out q _ _ false rfl (fun h => by cases h), fun h20 => ⟨⟨k + 1, by rw [m10]; omega, by omega, fun j hj r hjr => ?_⟩, by rw [m10]; omega⟩⟩
    rcases Nat.lt_or_ge j k with hjk | hjk
    · exact hall j hjk r hjr
    · have : j = k := by omega
      subst this
      rw [hrow] at hjr
      have hjr : row = r := by simpa using hjr
      subst hjr
      rw [hvs]; omega

/-! ### Tokens, cloned -/
def cloneS : Sx.Spec where
  fn := 28
  own := []
  rd := [100]
  res := [.one .sl]
  pre := fun xs Hs Rs => ∃ (v : Value) (T : List (List Int)) (R : Hl), xs = [v] ∧ Rs = [R] ∧ RdRows R v tkd (T.map bys) ∧ (∀ t ∈ T, t.length = 16) ∧ T.length ≤ 1000
  post := fun xs Hs Rs u Hs' F => ∃ (v : Value) (T : List (List Int)) (R : Hl), xs = [v] ∧ Rs = [R] ∧ RdRows R v tkd (T.map bys) ∧ RdRows F u tkd (T.map bys)
def cloneNd : Nd := .and (.imp (.eq (.var 0) (.lit (-1))) (.post [.ro 4 [.var 0] false] (.sv (.one (.sl (.lit (-1)) (.lit 0) (.lit 0) (.lit 0)))))) (.imp (.not (.eq (.var 0) (.lit (-1)))) (.ext (.alloc 5) (.and (.pre (.app 6 34 16 16 (.sl (.var 5) (.lit 0) (.lit 0) (.lit 0)) (.lit 0) (.blk 5 [] 34) (.seg 4 (.var 0) (.var 1) (.var 2)))) (.ext (.app 6 34 16 16 (.sl (.var 5) (.lit 0) (.lit 0) (.lit 0)) (.lit 0) (.blk 5 [] 34) (.seg 4 (.var 0) (.var 1) (.var 2))) (.post [.ro 4 [.var 0] false, .hp 6 [] [.var 6, .var 5] []] (.sv (.one (.sl (.var 6) (.lit 0) (.var 2) (.var 7)))))))))
def cloneW : Walk Try.prog [] cloneS.fn where
  Λ := noLoops
  args := [.sv (.one (.sl (.var 0) (.var 1) (.var 2) (.var 3)))]
  mem := [.ro 4 [.var 0] false]
  nv := 5
  nd := cloneNd
  ok := by kernel_rfl
theorem own00 (F : Hl) (e : TypeId) (size : Nat) {a : Int} (h : 0 ≤ a) (hF : F = Hl.one a.toNat (.cells #[] e (0, 0))) : OwnsH F e size (.slice (slP a 0) (Int.toNat 0) (Int.toNat 0)) (Int.toNat 0) [] := by
  subst hF
  refine ⟨by simp, Or.inr ⟨a.toNat, 0, #[], by rw [slP_pos h]; rfl, Hl.one_self _ _, by omega, by decide, by simp, by simp⟩⟩
theorem tok_ok : ∀ (n : Nat) (l : List Int), l.length = n → rowOK (bys l) (List.replicate n (Kd.int .u8))
  | 0, [], _ => trivial
  | n + 1, z :: l, h => ⟨by simp [valIs], tok_ok n l (by simpa using h)⟩
theorem seg_toks {R : Hl} {x y : Nat} {T : List (List Int)} (h16 : ∀ t ∈ T, t.length = 16) (h : ∀ (i : Nat) row, (T.map bys)[i]? = some row → rowOK row tkd ∧ ∀ j u, row[j]? = some u → R.cell x (y + i * tkd.length + j) = some u) :
    segVals R x y (T.length * 16) = (T.map bys).flatten ∧ ∀ j, j < T.length * 16 → ∃ v, R.cell x (y + j) = some v ∧ v.oneCell' = true := by
  have lt16 : tkd.length = 16 := rfl
  have len : ∀ r ∈ T.map bys, r.length = 16 := fun r hr => by
    obtain ⟨t, ht, rfl⟩ := List.mem_map.1 hr
    rw [bys_length]; exact h16 t ht
  have key : ∀ j, j < T.length * 16 → ∃ z, R.cell x (y + j) = some (.int .u8 z) ∧ (T.map bys).flatten[j]? = some (.int .u8 z) := by
    intro j hj
    have hi : j / 16 < T.length := by omega
    have e1 : T[j / 16]? = some T[j / 16] := List.getElem?_eq_getElem hi
    have hl := h16 _ (List.getElem_mem hi)
    have e2 : T[j / 16][j % 16]? = some (T[j / 16][j % 16]'(by omega)) := List.getElem?_eq_getElem (by omega)
    have er : (T.map bys)[j / 16]? = some (bys T[j / 16]) := by rw [List.getElem?_map, e1]; rfl
    have eu : (bys T[j / 16])[j % 16]? = some (.int .u8 (T[j / 16][j % 16]'(by omega))) := by rw [bys_get, e2]; rfl
    refine ⟨T[j / 16][j % 16]'(by omega), ?_, ?_⟩
    rotate_left
    · have := flat_get (n := 16) len er eu
      rw [show j / 16 * 16 + j % 16 = j by omega] at this
      exact this
    · have := (h _ _ er).2 _ _ eu
      rw [lt16, show y + j / 16 * 16 + j % 16 = y + j by omega] at this
      exact this
  refine ⟨?_, fun j hj => ?_⟩
  · unfold segVals
    apply List.ext_getElem?
    intro j
    rw [List.getElem?_map]
    rcases Nat.lt_or_ge j (T.length * 16) with hj | hj
    · obtain ⟨z, e1, e2⟩ := key j hj
      rw [List.getElem?_range hj, Option.map_some, e1, e2]; rfl
    · have hfl : (T.map bys).flatten.length = T.length * 16 := by
        have : ∀ (rows : List (List Value)), (∀ r ∈ rows, r.length = 16) → rows.flatten.length = rows.length * 16 := by
          intro rows
          induction rows with
          | nil => intro _; rfl
          | cons r rows ih =>
            intro hl
            rw [List.flatten_cons, List.length_append, ih fun r hr => hl r (List.mem_cons_of_mem _ hr), hl r (List.mem_cons_self ..), List.length_cons]; omega
        rw [this _ len, List.length_map]
      rw [List.getElem?_eq_none (by simpa using hj), List.getElem?_eq_none (by omega)]; rfl
  · obtain ⟨z, e1, _⟩ := key j hj
    exact ⟨_, e1, rfl⟩
theorem cloneS_ok : cloneS.OK Try.prog := by
  refine Spec.of_fn (Γ := []) (fun _ h => by cases h) ?_
  rintro xs Hs Rs hl1 hl2 ⟨v, T, R, rfl, rfl, hRd, h16, hT⟩
  have e0 : Hs = [] := List.length_eq_zero_iff.1 hl1
  subst e0
  obtain ⟨x, y, c, rfl, hy, hrows⟩ := id hRd
  have hlm : (T.map bys).length = T.length := List.length_map ..
  refine ⟨cloneW, envI [x, y, (T.map bys).length, c] false [Hl.none, Hl.none, Hl.none, Hl.none, R], fun _ _ => True, fun _ _ => 0, ?_, ⟨?_, ?_, ?_, ?_⟩, (fun _ h => nomatch h), ?_⟩
  · show [Value.slice (slP x y) (((T.map bys).length : Int)).toNat ((c : Int)).toNat] = _
    rw [Int.toNat_natCast, Int.toNat_natCast]
  · intro r hr ho; simp [cloneW] at hr; subst hr; cases ho
  · intro r hr ho; simp [cloneW] at hr; subst hr; exact ⟨R, by simp, Hl.le_refl _⟩
  · simp [cloneW]
  · intro r hr; simp [cloneW] at hr; subst hr; trivial
  · show Nd.holds _ _ _ cloneNd
    unfold cloneNd
    generalize hρ : envI [x, y, (T.map bys).length, c] false [Hl.none, Hl.none, Hl.none, Hl.none, R] = ρ
    have v0 : ρ.i 0 = x := by rw [← hρ]; rfl
    have v1 : ρ.i 1 = y := by rw [← hρ]; rfl
    have v2 : ρ.i 2 = (T.map bys).length := by rw [← hρ]; rfl
    have w4 : ρ.h 4 = R := by rw [← hρ]; rfl
    simp only [Nd.holds, X.pre, X.rel, X.n, Src.ok, Src.len, Src.vals, true_and, and_true, if_true, Nat.mul_one, Nat.add_zero, Nat.reduceAdd, List.length_cons, List.length_nil, bT_tt, bT_ff, bT_bvar, bT_not, bT_and, bT_or, bT_ite, bT_lt, bT_le, bT_eq, bT_beq, bT_seq, bT_hB, bT_his, bT_hby, bT_hism, bT_hks, iev_lit, iev_var, iev_add, iev_sub, iev_mul, iev_wrap, iev_ite, iev_hI, iev_hP, iev_hmlen, sev_ite, sev_slit, sev_sof, sev_svar, TV.ev, SV.ev, CV.ev, List.map_cons, List.map_nil, Res.hl]
    rw [v0]
    refine ⟨fun hx => ?_, fun hx q1 g1 p1 => ?_⟩
    · have hT0 : T = [] := by
        rcases hrows with h | ⟨h, _⟩
        · exact List.map_eq_nil_iff.1 h
        · omega
      intro _
      refine ⟨[], [], rfl, rfl, ⟨⟨fun k => if k = 0 then -1 else 0, fun _ => false, fun _ => .empty, fun _ => .tuple #[], fun _ => Hl.none⟩, rfl, ?_, trivial⟩, _, T, R, rfl, rfl, hRd, ?_⟩
      · exact ⟨by decide, by decide, by decide, by decide⟩
      · subst hT0
        exact ⟨-1, 0, 0, rfl, Int.le_refl _, Or.inl rfl⟩
    · have hnil := own00 (Hl.one (q1.i 5).toNat (.cells #[] 34 (0, 0))) 34 16 p1 rfl
      rw [g1.i 0 (by omega), v0, g1.i 1 (by omega), v1, g1.i 2 (by omega), v2, g1.h 4 (by omega), w4]
      have hRd' := hRd
      rw [hlm] at hRd'
      rw [Int.toNat_natCast, hlm]
      have sA : segVals R x.toNat y.toNat (T.length * 16) = (T.map bys).flatten ∧ ((0 ≤ x ∧ 0 ≤ y ∧ (0 : Int) ≤ T.length ∧ ∀ j, j < T.length * 16 → ∃ v, R.cell x.toNat (y.toNat + j) = some v ∧ v.oneCell' = true) ∨ (T.length : Int) = 0) := by
        rcases hrows with h | ⟨hx0, h⟩
        · have hT0 : T = [] := List.map_eq_nil_iff.1 h
          subst hT0
          exact ⟨rfl, Or.inr rfl⟩
        · obtain ⟨s1, s2⟩ := seg_toks h16 h
          exact ⟨s1, Or.inl ⟨hx0, hy, by omega, s2⟩⟩
      refine ⟨⟨⟨[], hnil⟩, Int.le_refl _, sA.2, by unfold maxLen; omega, by omega⟩, fun q2 g2 ⟨a1, a2, a3, _⟩ => ?_⟩
      have hx2 := a3 _ hnil
      rw [sA.1, List.nil_append, show Int.toNat 0 + T.length = T.length by omega] at hx2
      intro _
      have P2 : Agree 5 ρ q2 := g1.trans (g2.mono (by omega))
      have hO : OwR (q2.h 6) 34 tkd (.slice (slP (q2.i 6) 0) T.length (q2.i 7).toNat) (T.map bys) := by
        refine ⟨fun row hr => ?_, ?_⟩
        · obtain ⟨t, ht, rfl⟩ := List.mem_map.1 hr
          exact tok_ok 16 t (h16 t ht)
        · rw [hlm]; exact hx2
      have er : TV.ev q2 (.sv (.one (.sl (.var 6) (.lit 0) (.var 2) (.var 7)))) = .slice (slP (q2.i 6) 0) T.length (q2.i 7).toNat := by
        show Value.slice (slP (q2.i 6) 0) (q2.i 2).toNat (q2.i 7).toNat = _
        rw [P2.i 2 (by omega), v2, hlm, Int.toNat_natCast]
      refine ⟨[], [1], rfl, rfl, ⟨⟨fun k => match k with | 0 => q2.i 6 | 1 => 0 | 2 => T.length | _ => q2.i 7, fun _ => false, fun _ => .empty, fun _ => .tuple #[], fun _ => Hl.none⟩, ?_, ?_, trivial⟩, _, T, R, rfl, rfl, hRd', ?_⟩
      · rw [er]; show _ = Value.slice (slP (q2.i 6) 0) ((T.length : Int)).toNat (q2.i 7).toNat; rw [Int.toNat_natCast]
      · exact ⟨a1, Int.le_refl 0, by show (0 : Int) ≤ T.length; omega, a2⟩
      · rw [er]
        show RdRows (hls [q2.h 6]) _ _ _
        rw [hls_one]
        exact hO.rd
end Go.Proofs.Ytnlejejjeilpoaa.V2
