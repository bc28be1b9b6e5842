/- Layer 7: law07.same of a disk and a reference disk that are alike, law07.few, as contracts. No condition. -/
import Derived.Test.YtdohcabnaihaoaaRfH
set_option linter.unusedSimpArgs false
set_option linter.unusedVariables false
set_option linter.constructorNameAsVariable false
namespace Go.Proofs.Ytdohcabnaihaoaa
open Go Go.Sx

def sameS : Sx.Spec where
  fn := 21
  own := [.arg 0, .arg 1]
  rd := []
  res := [.one .bool]
  pre := fun xs Hs Rs => ∃ dp rp HD HR D M, xs = [dp, rp] ∧ Hs = [HD, HR] ∧ DiskAt HD dp D ∧ RefAt HR rp M ∧ Twin D M
  post := fun xs Hs Rs v Hs' F => ∃ dp rp HD' HR' D' M', xs = [dp, rp] ∧ Hs' = [HD', HR'] ∧ DiskAt HD' dp D' ∧ RefAt HR' rp M' ∧ Twin D' M' ∧ v = .bool true
def sameNd : Nd := .and (.e (.le (.lit 0) (.var 1))) (.and (.e (.his 3 (.var 1) (.lit 0) 0 .slice)) (.and (.e (.le (.lit 0) (.hP 3 (.var 1) (.lit 0) 0 2))) (.and (.pre (.call 0 4 [.sv (.one (.hptr (.var 0) (.lit 0)))] [.hp 2 [] [.var 0] []] [])) (.ext (.call 0 4 [.sv (.one (.hptr (.var 0) (.lit 0)))] [.hp 2 [] [.var 0] []] []) (.and (.imp (.not (.eq (.var 4) (.hP 3 (.var 1) (.lit 0) 0 2))) (.post [.hp 4 [2] [.var 0] [], .hp 3 [] [.var 1] []] (.sv (.one (.bool .ff))))) (.imp (.eq (.var 4) (.hP 3 (.var 1) (.lit 0) 0 2)) (.and (.pre (.call 1 6 [.sv (.one (.hptr (.var 0) (.lit 0)))] [.hp 4 [2] [.var 0] []] [])) (.ext (.call 1 6 [.sv (.one (.hptr (.var 0) (.lit 0)))] [.hp 4 [2] [.var 0] []] []) (.and (.pre (.call 4 8 [.sv (.one (.hptr (.var 1) (.lit 0)))] [.hp 3 [] [.var 1] []] [])) (.ext (.call 4 8 [.sv (.one (.hptr (.var 1) (.lit 0)))] [.hp 3 [] [.var 1] []] []) (.and (.imp (.not (.eq (.var 6) (.var 8))) (.post [.hp 6 [4, 2] [.var 0] [], .hp 8 [3] [.var 1] []] (.sv (.one (.bool .ff))))) (.imp (.eq (.var 6) (.var 8)) (.and (.e (.his 8 (.var 1) (.lit 4) 0 .bool)) (.and (.pre (.call 2 10 [.sv (.one (.hptr (.var 0) (.lit 0)))] [.hp 6 [4, 2] [.var 0] []] [])) (.ext (.call 2 10 [.sv (.one (.hptr (.var 0) (.lit 0)))] [.hp 6 [4, 2] [.var 0] []] []) (.and (.imp (.not (.beq (.bvar 10) (.hB 8 (.var 1) (.lit 4) 0))) (.post [.hp 10 [6, 4, 2] [.var 0] [], .hp 8 [3] [.var 1] []] (.sv (.one (.bool .ff))))) (.imp (.beq (.bvar 10) (.hB 8 (.var 1) (.lit 4) 0)) (.and (.inv 0 [⟨40, 0, .int .i64 (.lit (-1))⟩] [(41, some 10)]) (.havoc 0 0 12 (.and (.e (.his 8 (.var 1) (.lit 0) 0 .slice)) (.and (.e (.le (.lit 0) (.hP 8 (.var 1) (.lit 0) 0 2))) (.and (.imp (.le (.var 40) (.hP 8 (.var 1) (.lit 0) 0 2)) (.and (.pre (.call 3 42 [.sv (.one (.hptr (.var 0) (.lit 0))), .sv (.one (.int .i64 (.var 40)))] [.hp 41 [] [.var 0] []] [])) (.ext (.call 3 42 [.sv (.one (.hptr (.var 0) (.lit 0))), .sv (.one (.int .i64 (.var 40)))] [.hp 41 [] [.var 0] []] []) (.and (.imp (.not (.lt (.var 40) (.lit 0))) (.and (.imp (.eq (.var 40) (.hP 8 (.var 1) (.lit 0) 0 2)) (.and (.imp (.eq (.var 46) (.lit 1)) (.and (.e (.le (.lit 0) (.var 44))) (.and (.imp (.lt (.lit 0) (.var 44)) (.post [.hp 42 [41] [.var 0] [], .hp 8 [3] [.var 1] [], .hp 43 [] [.var 42] []] (.sv (.one (.bool .ff))))) (.imp (.not (.lt (.lit 0) (.var 44))) (.back 0 0 [⟨40, 0, .int .i64 (.wrap .i64 (.add (.var 40) (.lit 1)))⟩] [(41, some 42)]))))) (.imp (.not (.eq (.var 46) (.lit 1))) (.post [.hp 42 [41] [.var 0] [], .hp 8 [3] [.var 1] [], .hp 43 [] [.var 42] []] (.sv (.one (.bool .ff))))))) (.imp (.not (.eq (.var 40) (.hP 8 (.var 1) (.lit 0) 0 2))) (.and (.imp (.hB 8 (.var 1) (.lit 4) 0) (.and (.imp (.not (.eq (.var 46) (.lit 5))) (.post [.hp 42 [41] [.var 0] [], .hp 8 [3] [.var 1] [], .hp 43 [] [.var 42] []] (.sv (.one (.bool .ff))))) (.imp (.eq (.var 46) (.lit 5)) (.and (.e (.le (.lit 0) (.var 44))) (.and (.imp (.lt (.lit 0) (.var 44)) (.post [.hp 42 [41] [.var 0] [], .hp 8 [3] [.var 1] [], .hp 43 [] [.var 42] []] (.sv (.one (.bool .ff))))) (.imp (.not (.lt (.lit 0) (.var 44))) (.back 0 0 [⟨40, 0, .int .i64 (.wrap .i64 (.add (.var 40) (.lit 1)))⟩] [(41, some 42)]))))))) (.imp (.not (.hB 8 (.var 1) (.lit 4) 0)) (.and (.imp (.not (.eq (.var 46) (.lit 0))) (.post [.hp 42 [41] [.var 0] [], .hp 8 [3] [.var 1] [], .hp 43 [] [.var 42] []] (.sv (.one (.bool .ff))))) (.imp (.eq (.var 46) (.lit 0)) (.and (.e (.or (.eq (.var 42) (.lit (-1))) (.or (.eq (.var 44) (.lit 0)) (.and (.le (.lit 0) (.var 42)) (.and (.le (.lit 0) (.var 43)) (.hby 43 (.var 42) (.var 43) (.var 44))))))) (.and (.e (.le (.lit 0) (.hP 8 (.var 1) (.lit 0) 0 0))) (.and (.e (.le (.lit 0) (.hP 8 (.var 1) (.lit 0) 0 1))) (.and (.e (.lt (.var 40) (.hP 8 (.var 1) (.lit 0) 0 2))) (.and (.e (.his 8 (.hP 8 (.var 1) (.lit 0) 0 0) (.add (.hP 8 (.var 1) (.lit 0) 0 1) (.var 40)) 0 .slice)) (.and (.e (.or (.eq (.hP 8 (.hP 8 (.var 1) (.lit 0) 0 0) (.add (.hP 8 (.var 1) (.lit 0) 0 1) (.var 40)) 0 0) (.lit (-1))) (.or (.eq (.hP 8 (.hP 8 (.var 1) (.lit 0) 0 0) (.add (.hP 8 (.var 1) (.lit 0) 0 1) (.var 40)) 0 2) (.lit 0)) (.and (.le (.lit 0) (.hP 8 (.hP 8 (.var 1) (.lit 0) 0 0) (.add (.hP 8 (.var 1) (.lit 0) 0 1) (.var 40)) 0 0)) (.and (.le (.lit 0) (.hP 8 (.hP 8 (.var 1) (.lit 0) 0 0) (.add (.hP 8 (.var 1) (.lit 0) 0 1) (.var 40)) 0 1)) (.hby 8 (.hP 8 (.hP 8 (.var 1) (.lit 0) 0 0) (.add (.hP 8 (.var 1) (.lit 0) 0 1) (.var 40)) 0 0) (.hP 8 (.hP 8 (.var 1) (.lit 0) 0 0) (.add (.hP 8 (.var 1) (.lit 0) 0 1) (.var 40)) 0 1) (.hP 8 (.hP 8 (.var 1) (.lit 0) 0 0) (.add (.hP 8 (.var 1) (.lit 0) 0 1) (.var 40)) 0 2))))))) (.and (.imp (.not (.seq (.ite (.eq (.var 42) (.lit (-1))) (.slit ⟨#[]⟩) (.sof 43 (.var 42) (.var 43) (.var 44))) (.ite (.eq (.hP 8 (.hP 8 (.var 1) (.lit 0) 0 0) (.add (.hP 8 (.var 1) (.lit 0) 0 1) (.var 40)) 0 0) (.lit (-1))) (.slit ⟨#[]⟩) (.sof 8 (.hP 8 (.hP 8 (.var 1) (.lit 0) 0 0) (.add (.hP 8 (.var 1) (.lit 0) 0 1) (.var 40)) 0 0) (.hP 8 (.hP 8 (.var 1) (.lit 0) 0 0) (.add (.hP 8 (.var 1) (.lit 0) 0 1) (.var 40)) 0 1) (.hP 8 (.hP 8 (.var 1) (.lit 0) 0 0) (.add (.hP 8 (.var 1) (.lit 0) 0 1) (.var 40)) 0 2))))) (.post [.hp 42 [41] [.var 0] [], .hp 8 [3] [.var 1] [], .hp 43 [] [.var 42] []] (.sv (.one (.bool .ff))))) (.imp (.seq (.ite (.eq (.var 42) (.lit (-1))) (.slit ⟨#[]⟩) (.sof 43 (.var 42) (.var 43) (.var 44))) (.ite (.eq (.hP 8 (.hP 8 (.var 1) (.lit 0) 0 0) (.add (.hP 8 (.var 1) (.lit 0) 0 1) (.var 40)) 0 0) (.lit (-1))) (.slit ⟨#[]⟩) (.sof 8 (.hP 8 (.hP 8 (.var 1) (.lit 0) 0 0) (.add (.hP 8 (.var 1) (.lit 0) 0 1) (.var 40)) 0 0) (.hP 8 (.hP 8 (.var 1) (.lit 0) 0 0) (.add (.hP 8 (.var 1) (.lit 0) 0 1) (.var 40)) 0 1) (.hP 8 (.hP 8 (.var 1) (.lit 0) 0 0) (.add (.hP 8 (.var 1) (.lit 0) 0 1) (.var 40)) 0 2)))) (.back 0 0 [⟨40, 0, .int .i64 (.wrap .i64 (.add (.var 40) (.lit 1)))⟩] [(41, some 42)])))))))))))))))) (.imp (.lt (.var 40) (.lit 0)) (.and (.imp (.eq (.var 46) (.lit 1)) (.and (.e (.le (.lit 0) (.var 44))) (.and (.imp (.lt (.lit 0) (.var 44)) (.post [.hp 42 [41] [.var 0] [], .hp 8 [3] [.var 1] [], .hp 43 [] [.var 42] []] (.sv (.one (.bool .ff))))) (.imp (.not (.lt (.lit 0) (.var 44))) (.back 0 0 [⟨40, 0, .int .i64 (.wrap .i64 (.add (.var 40) (.lit 1)))⟩] [(41, some 42)]))))) (.imp (.not (.eq (.var 46) (.lit 1))) (.post [.hp 42 [41] [.var 0] [], .hp 8 [3] [.var 1] [], .hp 43 [] [.var 42] []] (.sv (.one (.bool .ff))))))))))) (.imp (.not (.le (.var 40) (.hP 8 (.var 1) (.lit 0) 0 2))) (.post [.hp 41 [] [.var 0] [], .hp 8 [3] [.var 1] []] (.sv (.one (.bool .tt)))))))))))))))))))))))))))
def smΓ : List Sx.Spec := [sectorsS, looseS, goneS, readS, rlooseS]
theorem smΓ_ok : ∀ t ∈ smΓ, t.OK Try.prog := fun t ht => by
  simp only [smΓ, List.mem_cons, List.mem_nil_iff, or_false] at ht
  rcases ht with rfl | rfl | rfl | rfl | rfl
  · exact sectorsS_ok
  · exact looseS_ok
  · exact goneS_ok
  · exact readS_ok
  · exact rlooseS_ok
def sameW : Walk Try.prog smΓ sameS.fn where
  Λ := fun p => if lp p then some ⟨0, [(5, TI .i64 (.var 40))], [(0, .hp 41 [] [.var 0] [])], 42⟩ else none
  args := [TP (.var 0) (.lit 0), TP (.var 1) (.lit 0)]
  mem := [.hp 2 [] [.var 0] [], .hp 3 [] [.var 1] []]
  nv := 4
  nd := sameNd
  ok := by kernel_rfl
theorem mg0 : smΓ[0]? = some sectorsS := rfl
theorem mg1 : smΓ[1]? = some looseS := rfl
theorem mg2 : smΓ[2]? = some goneS := rfl
theorem mg3 : smΓ[3]? = some readS := rfl
theorem mg4 : smΓ[4]? = some rlooseS := rfl
theorem mr0 : sectorsS.res = [.one (.int .i64)] := rfl
theorem mr1 : looseS.res = [.one (.int .i64)] := rfl
theorem mr2 : goneS.res = [.one .bool] := rfl
theorem mr3 : readS.res = [.one .sl, .one (.int .i64)] := rfl
theorem mr4 : rlooseS.res = [.one (.int .i64)] := rfl
theorem mc3 : (cpRoots 0 [Cp.one .sl, Cp.one (.int .i64)] ≠ []) = True := by simp [cpRoots, Cp.roots, Ck.root]
theorem num_post {f : FuncId} {num : DM → Int} {p v : Value} {H F : Hl} {K : List Hl} {D : DM} (h1 : DiskAt H p D) (hp : (numS f num).post [p] [H] [] v K F) : ∃ H', K = [H'] ∧ DiskAt H' p D ∧ v = .int .i64 (num D) := by
  obtain ⟨p', Hx, D', H', hx, hH, hD, hK, hD', hv⟩ := hp
  have hx : p = p' := by simpa using hx
  subst hx
  have hH : H = Hx := by simpa using hH
  subst hH
  have e := h1.uniq hD
  subst e
  exact ⟨H', hK, hD', hv⟩
theorem tn0 : Int.toNat 0 = 0 := rfl
theorem tn4 : Int.toNat 4 = 4 := rfl
theorem sameS_ok : sameS.OK Try.prog := by
  refine spec_of_fn2 (Γ := smΓ) smΓ_ok ?_
  rintro xs Hs Rs hl1 hl2 hdd ⟨dp, rp, HD, HR, D, M, rfl, rfl, hD, hM, ht⟩
  have e1 : Rs = [] := List.length_eq_zero_iff.1 hl2
  subst e1
  obtain ⟨da, s, m, es, clock, hdp, hDi⟩ := id hD
  obtain ⟨ra, x1, c1, hrp, hx1, hcell0, _, _⟩ := hM.parts
  have hdis : HD.dis HR := hdd 0 1 HD HR (by decide) rfl rfl
  refine ⟨sameW, envI [da, ra] false [Hl.none, Hl.none, HD, HR], fun _ q => -1 ≤ q.i 40 ∧ q.i 40 ≤ D.n + 1 ∧ DiskAt (q.h 41) dp D, fun _ q => ((D.n : Int) + 1 - q.i 40).toNat, ?_, ⟨?_, ?_, ?_, ?_⟩, (fun _ h => nomatch h), ?_⟩
  · show [Value.pointer (slP (da : Int) 0), Value.pointer (slP (ra : Int) 0)] = _
    rw [dArg, dArg, hdp, hrp]
  · intro r hr ho; simp [sameW] at hr
    rcases hr with rfl | rfl
    · exact ⟨HD, by simp, Hl.le_refl _⟩
    · exact ⟨HR, by simp, Hl.le_refl _⟩
  · intro r hr ho; simp [sameW] at hr
    rcases hr with rfl | rfl <;> cases ho
  · refine List.Pairwise.cons (fun r hr _ ho => ?_) (List.Pairwise.cons (fun r hr => by cases hr) List.Pairwise.nil)
    simp only [List.mem_cons, List.mem_nil_iff, or_false] at hr
    subst hr
    exact hdis
  · intro r hr; simp [sameW] at hr; rcases hr with rfl | rfl <;> trivial
  · show Nd.holds _ _ _ sameNd
    generalize hρ : envI [(da : Int), ra] false [Hl.none, Hl.none, HD, HR] = ρ
    have v0 : ρ.i 0 = da := by rw [← hρ]; rfl
    have v1 : ρ.i 1 = ra := by rw [← hρ]; rfl
    have w2 : ρ.h 2 = HD := by rw [← hρ]; rfl
    have w3 : ρ.h 3 = HR := by rw [← hρ]; rfl
    clear hρ
    have eD : ∀ q, Agree 4 ρ q → Value.pointer (slP (q.i 0) 0) = dp := fun q a => by rw [a.i 0 (by omega), v0, dArg, hdp]
    have eR : ∀ q, Agree 4 ρ q → Value.pointer (slP (q.i 1) 0) = rp := fun q a => by rw [a.i 1 (by omega), v1, dArg, hrp]
    have hDn := hDi.ok.n
    have sl2 : ∀ {x : Int} {n : Nat} {c : Int}, valP (some (sv0 x n c)) 2 = n := by
      intro x n c
      unfold sv0
      rw [Int.toNat_natCast]
      rcases Int.lt_or_le x 0 with h | h
      · have e : slP x 0 = if x = -1 then none else some ⟨(-x - 2).toNat, (unp (Int.toNat 0)).1, some (unp (Int.toNat 0)).2⟩ := by unfold slP; rw [if_neg (by omega)]
        rw [e]; split <;> rfl
      · rw [slP_pos h]; rfl
    have sls : ∀ {x : Int} {n : Nat} {c : Int}, valIs (some (sv0 x n c)) .slice = true := fun {x n c} => rfl
    unfold sameNd
    simp only [Nd.holds, X.pre, X.rel, X.n, Src.ok, Src.len, Src.vals, true_and, and_true, if_true, Nat.mul_one, Nat.add_zero, Nat.reduceAdd, List.length_cons, List.length_nil, bT_tt, bT_ff, bT_bvar, bT_not, bT_and, bT_or, bT_ite, bT_lt, bT_le, bT_eq, bT_beq, bT_seq, bT_hB, bT_his, bT_hby, bT_hism, bT_hks, iev_lit, iev_var, iev_add, iev_sub, iev_mul, iev_wrap, iev_ite, iev_hI, iev_hP, iev_hmlen, sev_ite, sev_slit, sev_sof, sev_svar, TV.ev, SV.ev, CV.ev, List.map_cons, List.map_nil, Res.hl, cpTV, Cp.sv, Ck.cv, cpSVs, Cp.len, Ck.len, newHs_zero, newHs_one, roots_ne, mg0, mg1, mg2, mg3, mg4, mr0, mr1, mr2, mr3, mr4, mc3, tn0, tn4]
    have eS : ρ.h 3 = HR := w3
    rw [v1, w3, Int.toNat_natCast, hcell0, sl2, eD ρ (Agree.refl _ _), w2]
    refine ⟨by omega, rfl, by omega, ⟨dp, HD, D, rfl, rfl, hD⟩, fun q1 g1 ⟨F1, hp1, _, _⟩ => ?_⟩
    obtain ⟨H1, hK1, hD1, hv1⟩ := num_post hD hp1
    have hK1 : q1.h 4 = H1 := by simpa using hK1
    have hv1 : q1.i 4 = D.n := by simpa using hv1
    have P1 : Agree 4 ρ q1 := g1
    rw [P1.h 3 (by omega), w3, P1.i 1 (by omega), v1, Int.toNat_natCast, hcell0, sl2, hv1, ht.len, eD q1 P1, hK1]
    refine ⟨fun h => absurd rfl h, fun _ => ⟨⟨dp, H1, D, rfl, rfl, hD1⟩, fun q2 g2 ⟨F2, hp2, _, _⟩ => ?_⟩⟩
    obtain ⟨H2, hK2, hD2, hv2⟩ := num_post hD1 hp2
    have hK2 : q2.h 6 = H2 := by simpa using hK2
    have hv2 : q2.i 6 = D.loose.length := by simpa using hv2
    have P2 : Agree 4 ρ q2 := P1.trans (g2.mono (by omega))
    rw [eR q2 P2, P2.h 3 (by omega), w3]
    refine ⟨⟨rp, HR, M, rfl, rfl, hM⟩, fun q3 g3 ⟨F3, ⟨p', H', M', H3, hx3, hH3, hM', hK3, hM3, hv3⟩, _, _⟩ => ?_⟩
    have hx3 : rp = p' := by simpa using hx3
    have hH3 : HR = H' := by simpa using hH3
    subst hx3 hH3
    have e := hM.uniq hM'
    subst e
    have hK3 : q3.h 8 = H3 := by simpa using hK3
    have hv3 : q3.i 8 = cntB M.is := by simpa using hv3
    rw [← hK3] at hM3
    have P3 : Agree 4 ρ q3 := P2.trans (g3.mono (by omega))
    obtain ⟨ra', x1', c1', hrp', hx1', hc0, hc4, hrows⟩ := hM3.parts
    have er : ra' = ra := by
      rw [hrp] at hrp'
      simp only [Value.pointer.injEq, Option.some.injEq, Addr.mk.injEq, and_true] at hrp'
      exact hrp'.symm
    subst er
    rw [hv3, g3.i 6 (by omega), hv2, ht.count, P3.i 1 (by omega), v1, Int.toNat_natCast, hc4, eD q3 P3, g3.h 6 (by omega), hK2]
    refine ⟨fun h => absurd rfl h, fun _ => ⟨rfl, ⟨dp, H2, D, rfl, rfl, hD2⟩, fun q4 g4 ⟨F4, ⟨p', H', D', H4, hx4, hH4, hD', hK4, hD4, hv4⟩, _, _⟩ => ?_⟩⟩
    have hx4 : dp = p' := by simpa using hx4
    have hH4 : H2 = H' := by simpa using hH4
    subst hx4 hH4
    have e := hD2.uniq hD'
    subst e
    have hK4 : q4.h 10 = H4 := by simpa using hK4
    have hv4 : q4.b 10 = D.gone := by
      have h1 : Value.bool (q4.b 10) = .bool D.gone := hv4
      simpa using h1
    have P4 : Agree 4 ρ q4 := P3.trans (g4.mono (by omega))
    have B4 : Agree 10 q3 q4 := g4
    rw [hv4, P4.i 1 (by omega), v1, B4.h 8 (by omega), Int.toNat_natCast, hc4]
    have hB8 : q4.h 8 = q3.h 8 := B4.h 8 (by omega)
    have yes : ∀ (q : Env) (k1 k2 : Nat) (u1 u2 : List Nat) (t : Mem) (e : E), bev q e = true → DiskAt (q.h k1) dp D → RefAt (q.h k2) rp M →
        postOf sameS [dp, rp] [HD, HR] [] q (.hp k1 u1 [.var 0] [] :: .hp k2 u2 [.var 1] [] :: t) (.sv (.one (.bool e))) := by
      intro q k1 k2 u1 u2 t e he h1 h2 _
      refine ⟨[[0], [1]], [], rfl, rfl, ⟨⟨fun _ => 0, fun _ => true, fun _ => .empty, fun _ => .tuple #[], fun _ => Hl.none⟩, by show Value.bool (bev q e) = _; rw [he]; rfl, trivial, trivial⟩, dp, rp, _, _, D, M, rfl, rfl, ?_, ?_, ht, by show Value.bool (bev q e) = _; rw [he]⟩
      · show DiskAt (hls [q.h k1]) dp D
        rw [hls_one]; exact h1
      · show RefAt (hls [q.h k2]) rp M
        rw [hls_one]; exact h2
    refine ⟨fun h => absurd (by rw [← ht.gone]; rfl) h, fun _ => ⟨⟨Int.le_refl _, by show (-1 : Int) ≤ _; omega, by show DiskAt (q4.h 10) dp D; rw [hK4]; exact hD4⟩, fun q5 g5 ⟨l0, l1, hDq⟩ => ?_⟩⟩
    have P5 : Agree 4 ρ q5 := P4.trans (g5.mono (by omega))
    have h85 : q5.h 8 = q3.h 8 := by rw [g5.h 8 (by omega), hB8]
    rw [P5.i 1 (by omega), v1, Int.toNat_natCast, h85, hc0, sl2, eD q5 P5, ht.len]
    refine ⟨rfl, by omega, fun hle => ⟨⟨dp, q5.i 40, _, D, rfl, rfl, hDq⟩, fun q6 g6 ⟨F6, ⟨p', i', H', D', H6, u6, hx6, hH6, hD', hK6, hD6, hv6, hO6⟩, hF6, ⟨⟨n42, n43, n44, n45⟩, _⟩⟩ => ?_⟩, fun hgt => yes q5 41 8 _ _ _ _ rfl hDq (by rw [h85]; exact hM3)⟩
    have hx6 : dp = p' ∧ q5.i 40 = i' := by simpa using hx6
    obtain ⟨hxa, hxb⟩ := hx6
    have hH6 : q5.h 41 = H' := by simpa using hH6
    subst hxa hxb hH6
    have e := hDq.uniq hD'
    subst e
    have hK6 : q6.h 42 = H6 := by simpa using hK6
    rw [← hK6] at hD6
    rw [← hF6 trivial] at hO6
    have hv6 : Value.slice (slP (q6.i 42) (q6.i 43)) (q6.i 44).toNat (q6.i 45).toNat = u6 ∧ q6.i 46 = (readR D (q5.i 40)).2 := by simpa using hv6
    obtain ⟨hu6, h46⟩ := hv6
    subst hu6
    have n42 : -1 ≤ q6.i 42 := n42
    have n43 : 0 ≤ q6.i 43 := n43
    have n44 : 0 ≤ q6.i 44 := n44
    have P6 : Agree 4 ρ q6 := P5.trans (g6.mono (by omega))
    have h86 : q6.h 8 = q3.h 8 := by rw [g6.h 8 (by omega), h85]
    obtain ⟨e44, hcells⟩ := hO6.rd.at n42 n43 n44
    have hT := hO6.rd.text n42 n43 n44
    obtain ⟨i, hi⟩ : ∃ i, i = q5.i 40 := ⟨_, rfl⟩
    rw [← hi] at l0 l1 hle h46 e44 hcells hT
    have i40 : q6.i 40 = i := by rw [g6.i 40 (by omega), hi]
    rw [P6.i 1 (by omega), v1, Int.toNat_natCast, h86, hc0, hc4, sl2, i40, ht.len]
    have back : ((-1 : Int) ≤ (assign q6 [⟨40, 0, .int .i64 (.wrap .i64 (.add (.var 40) (.lit 1)))⟩] [(41, some 42)]).i 40 ∧ (assign q6 [⟨40, 0, .int .i64 (.wrap .i64 (.add (.var 40) (.lit 1)))⟩] [(41, some 42)]).i 40 ≤ (D.n : Int) + 1 ∧ DiskAt ((assign q6 [⟨40, 0, .int .i64 (.wrap .i64 (.add (.var 40) (.lit 1)))⟩] [(41, some 42)]).h 41) dp D) ∧
        ((D.n : Int) + 1 - (assign q6 [⟨40, 0, .int .i64 (.wrap .i64 (.add (.var 40) (.lit 1)))⟩] [(41, some 42)]).i 40).toNat < ((D.n : Int) + 1 - q5.i 40).toNat := by
      have m : (assign q6 [⟨40, 0, .int .i64 (.wrap .i64 (.add (.var 40) (.lit 1)))⟩] [(41, some 42)]).i 40 = i + 1 := by
        show IntKind.i64.wrap (q6.i 40 + 1) = _
        rw [i40, wrap_i64 (by omega) (by omega)]
      rw [m, ← hi]
      exact ⟨⟨by omega, by omega, hD6⟩, by omega⟩
    have nn1 : D.has i = false → readR D i = ([], 1) := fun h => by unfold readR; rw [if_pos h]
    have has : i < 0 ∨ i = D.n → D.has i = false := fun h => by unfold DM.has; simp only [decide_eq_false_iff_not]; omega
    refine ⟨fun hnn => ⟨fun hieq => ?_, fun hine => ⟨fun hg => ?_, fun hg => ?_⟩⟩, fun hlt0 => ?_⟩
    · have hr := nn1 (has (Or.inr hieq))
      rw [hr] at h46 e44
      rw [h46, e44]
      exact ⟨fun _ => ⟨Int.le_refl _, fun h => absurd h (by decide), fun _ => back⟩, fun h => absurd rfl h⟩
    · have hh : D.has i = true := by unfold DM.has; simp only [decide_eq_true_eq]; omega
      have hg : D.gone = true := by rw [← ht.gone]; exact hg
      have hr : readR D i = ([], 5) := by unfold readR; rw [if_neg (by rw [hh]; simp), if_pos hg]
      rw [hr] at h46 e44
      rw [h46, e44]
      exact ⟨fun h => absurd rfl h, fun _ => ⟨Int.le_refl _, fun h => absurd h (by decide), fun _ => back⟩⟩
    · have hh : D.has i = true := by unfold DM.has; simp only [decide_eq_true_eq]; omega
      have hg : ¬ D.gone = true := by rw [← ht.gone]; exact hg
      have hr : readR D i = (D.sector i, 0) := by unfold readR; rw [if_neg (by rw [hh]; simp), if_neg hg]
      rw [hr] at h46 hT
      have hin : i.toNat < M.now.length := by rw [ht.len]; omega
      have hnow : M.now[i.toNat]? = some M.now[i.toNat] := List.getElem?_eq_getElem hin
      obtain ⟨h0x, b, cc, hcell, hbytes⟩ := hrows i.toNat _ hnow
      have hsec : D.sector i = M.now[i.toNat] := by
        have := ht.sec hnow
        rwa [show ((i.toNat : Nat) : Int) = i by omega] at this
      have s0 : valP (some (sv0 x1' M.now.length c1')) 0 = x1' := by unfold sv0; rw [slP_pos h0x]; show ((x1'.toNat : Nat) : Int) = _; omega
      have s1 : valP (some (sv0 x1' M.now.length c1')) 1 = 0 := by unfold sv0; rw [slP_pos h0x]; rfl
      have u0 : valP (some (Value.slice (some ⟨b, 0, none⟩) M.now[i.toNat].length cc)) 0 = b := rfl
      have u1 : valP (some (Value.slice (some ⟨b, 0, none⟩) M.now[i.toNat].length cc)) 1 = 0 := rfl
      have u2 : valP (some (Value.slice (some ⟨b, 0, none⟩) M.now[i.toNat].length cc)) 2 = M.now[i.toNat].length := rfl
      rw [ht.len] at s0 s1
      have ei : ((0 : Int) + i).toNat = i.toNat := by omega
      have hrd : RdB (q3.h 8) (.slice (slP (b : Int) 0) ((M.now[i.toNat].length : Int)).toNat (cc : Int).toNat) M.now[i.toNat] := ⟨b, 0, cc, by rw [Int.toNat_natCast, Int.toNat_natCast], Int.le_refl _, Or.inr ⟨by omega, fun j z hz => by have := hbytes j z hz; simpa using this⟩⟩
      have hT2 := hrd.text (by omega) (Int.le_refl _) (by omega)
      rw [h46, s0, s1, ei, hcell, u0, u1, u2]
      refine ⟨fun h => absurd rfl h, fun _ => ⟨hT.1.imp id Or.inr, h0x, Int.le_refl _, by omega, rfl, hT2.1.imp id Or.inr, ?_⟩⟩
      have key : (if q6.i 42 = -1 then (⟨#[]⟩ : ByteArray) else bytesOf (cellInts (q6.h 43) (q6.i 42).toNat (q6.i 43).toNat (q6.i 44).toNat)) = (if (b : Int) = -1 then (⟨#[]⟩ : ByteArray) else bytesOf (cellInts (q3.h 8) ((b : Int)).toNat (Int.toNat 0) ((M.now[i.toNat].length : Int)).toNat)) := by
        have a : _ = bytesOf (D.sector i) := hT.2
        rw [hsec] at a
        exact a.trans hT2.2.symm
      exact ⟨fun h => absurd key h, fun _ => back⟩
    · have hr := nn1 (has (Or.inl hlt0))
      rw [hr] at h46 e44
      rw [h46, e44]
      exact ⟨fun _ => ⟨Int.le_refl _, fun h => absurd h (by decide), fun _ => back⟩, fun h => absurd rfl h⟩
/-! ### few -/
def opK7 : List Kd := [.int .u8, .int .i64, .int .u8, .slice]
def fewS : Sx.Spec where
  fn := 18
  own := []
  rd := [0]
  res := [.one .bool]
  pre := fun xs Hs Rs => ∃ v R rows, xs = [v] ∧ Rs = [R] ∧ RdRows R v opK7 rows
  post := fun xs Hs Rs v Hs' F => ∃ u R rows b, xs = [u] ∧ Rs = [R] ∧ RdRows R u opK7 rows ∧ v = .bool b ∧ (b = true → rows.length ≤ 60)
def fewNd : Nd := .and (.inv 0 [⟨10, 0, .int .i64 (.lit 0)⟩, ⟨11, 0, .int .i64 (.lit 0)⟩] []) (.havoc 0 0 5 (.and (.e (.le (.lit 0) (.var 2))) (.and (.imp (.lt (.var 11) (.var 2)) (.and (.imp (.lt (.var 11) (.lit 100)) (.and (.e (.le (.lit 0) (.var 0))) (.and (.e (.le (.lit 0) (.var 1))) (.and (.e (.le (.lit 0) (.var 11))) (.and (.e (.his 4 (.var 0) (.add (.add (.var 1) (.mul (.var 11) (.lit 4))) (.lit 3)) 0 .slice)) (.and (.e (.le (.lit 0) (.hP 4 (.var 0) (.add (.add (.var 1) (.mul (.var 11) (.lit 4))) (.lit 3)) 0 2))) (.back 0 0 [⟨10, 0, .int .i64 (.wrap .i64 (.add (.var 10) (.ite (.lt (.lit 3000) (.hP 4 (.var 0) (.add (.add (.var 1) (.mul (.var 11) (.lit 4))) (.lit 3)) 0 2)) (.lit 3000) (.hP 4 (.var 0) (.add (.add (.var 1) (.mul (.var 11) (.lit 4))) (.lit 3)) 0 2))))⟩, ⟨11, 0, .int .i64 (.wrap .i64 (.add (.var 11) (.lit 1)))⟩] []))))))) (.imp (.not (.lt (.var 11) (.lit 100))) (.and (.imp (.le (.var 2) (.lit 60)) (.post [.ro 4 [.var 0] false] (.sv (.one (.bool (.le (.var 10) (.lit 5000))))))) (.imp (.not (.le (.var 2) (.lit 60))) (.post [.ro 4 [.var 0] false] (.sv (.one (.bool .ff))))))))) (.imp (.not (.lt (.var 11) (.var 2))) (.and (.imp (.le (.var 2) (.lit 60)) (.post [.ro 4 [.var 0] false] (.sv (.one (.bool (.le (.var 10) (.lit 5000))))))) (.imp (.not (.le (.var 2) (.lit 60))) (.post [.ro 4 [.var 0] false] (.sv (.one (.bool .ff))))))))))
def fewW : Walk Try.prog [] fewS.fn where
  Λ := fun p => if lp p then some ⟨0, [(3, TI .i64 (.var 10)), (4, TI .i64 (.var 11))], [], 12⟩ else none
  args := [.sv (.one (.sl (.var 0) (.var 1) (.var 2) (.var 3)))]
  mem := [.ro 4 [.var 0] false]
  nv := 5
  nd := fewNd
  ok := by kernel_rfl
theorem fewS_ok : fewS.OK Try.prog := by
  refine Spec.of_fn (Γ := []) (fun t ht => nomatch ht) ?_
  rintro xs Hs Rs hl1 hl2 ⟨v, R, rows, rfl, rfl, hRd⟩
  have e0 : Hs = [] := List.length_eq_zero_iff.1 hl1
  subst e0
  obtain ⟨x, y, c, rfl, hy, hrows⟩ := id hRd
  refine ⟨fewW, envI [x, y, rows.length, c] false [Hl.none, Hl.none, Hl.none, Hl.none, R], fun _ q => 0 ≤ q.i 11, fun _ q => (rows.length - q.i 11).toNat, ?_, ⟨?_, ?_, ?_, ?_⟩, (fun _ h => nomatch h), ?_⟩
  · show [Value.slice (slP x y) ((rows.length : Int)).toNat ((c : Int)).toNat] = _
    rw [Int.toNat_natCast, Int.toNat_natCast]
  · intro r hr ho; simp [fewW] at hr; subst hr; cases ho
  · intro r hr ho; simp [fewW] at hr; subst hr; exact ⟨R, by simp, Hl.le_refl _⟩
  · simp [fewW]
  · intro r hr; simp [fewW] at hr; subst hr; trivial
  · show Nd.holds _ _ _ fewNd
    generalize hρ : envI [x, y, rows.length, c] false [Hl.none, Hl.none, Hl.none, Hl.none, R] = ρ
    have v0 : ρ.i 0 = x := by rw [← hρ]; rfl
    have v1 : ρ.i 1 = y := by rw [← hρ]; rfl
    have v2 : ρ.i 2 = rows.length := by rw [← hρ]; rfl
    have w4 : ρ.h 4 = R := by rw [← hρ]; rfl
    have out : ∀ (q : Env) (t : Mem) (e : E), (bev q e = true → rows.length ≤ 60) → postOf fewS [.slice (slP x y) rows.length c] [] [R] q t (.sv (.one (.bool e))) := fun q t e he _ =>
      ⟨[], [], rfl, rfl, ⟨⟨fun _ => 0, fun _ => bev q e, fun _ => .empty, fun _ => .tuple #[], fun _ => Hl.none⟩, rfl, trivial, trivial⟩, _, R, rows, bev q e, rfl, rfl, hRd, rfl, he⟩
    unfold fewNd
    simp only [Nd.holds, X.pre, X.rel, X.n, Src.ok, Src.len, Src.vals, true_and, and_true, if_true, Nat.mul_one, Nat.add_zero, Nat.reduceAdd, List.length_cons, List.length_nil, bT_tt, bT_ff, bT_bvar, bT_not, bT_and, bT_or, bT_ite, bT_lt, bT_le, bT_eq, bT_beq, bT_seq, bT_hB, bT_his, bT_hby, bT_hism, bT_hks, iev_lit, iev_var, iev_add, iev_sub, iev_mul, iev_wrap, iev_ite, iev_hI, iev_hP, iev_hmlen, sev_ite, sev_slit, sev_sof, sev_svar, TV.ev, SV.ev, CV.ev, List.map_cons, List.map_nil, Res.hl]
    refine ⟨by show (0 : Int) ≤ 0; omega, fun q g h0 => ?_⟩
    have h0 : 0 ≤ q.i 11 := h0
    rw [g.i 2 (by omega), v2, g.i 0 (by omega), v0, g.i 1 (by omega), v1, g.h 4 (by omega), w4]
    refine ⟨by omega, fun hlt => ⟨fun hh => ?_, fun _ => ⟨fun hle => out _ _ _ fun _ => by omega, fun _ => out _ _ _ fun h => by cases h⟩⟩, fun _ => ⟨fun hle => out _ _ _ fun _ => by omega, fun _ => out _ _ _ fun h => by cases h⟩⟩
    obtain ⟨i, hi⟩ : ∃ i : Nat, q.i 11 = i := ⟨(q.i 11).toNat, by omega⟩
    rw [hi] at hlt hh ⊢
    have hil : i < rows.length := by omega
    obtain ⟨row, hrow⟩ : ∃ r, rows[i]? = some r := ⟨_, List.getElem?_eq_getElem hil⟩
    rcases hrows with h | ⟨hx0, hr⟩
    · subst h; cases hil
    obtain ⟨hk, hc⟩ := hr i row hrow
    obtain ⟨a, b, d, u, rfl⟩ : ∃ a b d u, row = [a, b, d, u] := by
      match row, rowOK_length hk with
      | [a, b, d, u], _ => exact ⟨a, b, d, u, rfl⟩
    obtain ⟨_, _, _, hsl, _⟩ := hk
    have hcu := hc 3 u rfl
    have hat : (y + (i : Int) * 4 + 3).toNat = y.toNat + i * opK7.length + 3 := by show _ = y.toNat + i * 4 + 3; omega
    rw [hat, hcu]
    have hpl : 0 ≤ valP (some u) 2 := by
      cases u <;> simp [valIs] at hsl
      simp [valP]
    refine ⟨hx0, hy, by omega, hsl, hpl, ?_, ?_⟩
    all_goals
      have m11 : ∀ e z, (assign q [⟨10, 0, .int .i64 e⟩, ⟨11, 0, .int .i64 (.wrap .i64 (.add (.var 11) (.lit 1)))⟩] z).i 11 = i + 1 := fun e z => by
        show IntKind.i64.wrap (q.i 11 + 1) = _
        rw [hi, wrap_i64 (by omega) (by omega)]
    · show 0 ≤ _
      rw [m11]; omega
    · rw [m11]; omega
end Go.Proofs.Ytdohcabnaihaoaa
