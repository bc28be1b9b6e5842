/- Layer 7: DiskFuses answers true. No condition. -/
import Derived.Test.YtdohcabnaihaoaaDskI
set_option linter.unusedSimpArgs false
set_option linter.unusedVariables false
set_option linter.constructorNameAsVariable false
namespace Go.Proofs.Ytdohcabnaihaoaa
open Go Go.Sx

def lawΓ : List Sx.Spec := dΓ ++ [awakeS, syncS, fuseS, goneS, crashS]
theorem lawΓ_ok : ∀ t ∈ lawΓ, t.OK Try.prog := by
  intro t ht
  rcases List.mem_append.1 ht with ht | ht
  · exact dΓ_ok t ht
  · simp only [List.mem_cons, List.mem_nil_iff, or_false] at ht
    rcases ht with rfl | rfl | rfl | rfl | rfl
    · exact awakeS_ok
    · exact syncS_ok
    · exact fuseS_ok
    · exact goneS_ok
    · exact crashS_ok
theorem lg0 : lawΓ[0]? = some newS := rfl
theorem lg1 : lawΓ[1]? = some fullS := rfl
theorem lg2 : lawΓ[2]? = some writeS := rfl
theorem lg3 : lawΓ[3]? = some readS := rfl
theorem lg4 : lawΓ[4]? = some sectorsS := rfl
theorem lg5 : lawΓ[5]? = some looseS := rfl
theorem lg6 : lawΓ[6]? = some awakeS := rfl
theorem lg7 : lawΓ[7]? = some syncS := rfl
theorem lg8 : lawΓ[8]? = some fuseS := rfl
theorem lg9 : lawΓ[9]? = some goneS := rfl
theorem lg10 : lawΓ[10]? = some crashS := rfl
theorem dr6 : awakeS.res = [.one .bool] := rfl
theorem dr7 : syncS.res = [.one (.int .i64)] := rfl
theorem dr8 : fuseS.res = [] := rfl
theorem dr9 : goneS.res = [.one .bool] := rfl
theorem dr10 : crashS.res = [] := rfl
theorem rem_u8 {n : Int} (h0 : 0 ≤ n) (h1 : n < 256) {c : Int} (c0 : 0 < c) (c1 : c ≤ 255) : IntKind.i64.wrap (n.tmod c) = n % c ∧ 0 ≤ n % c ∧ n % c < c := by
  have e := Int.tmod_eq_emod_of_nonneg (b := c) h0
  have a := Int.emod_nonneg n (show c ≠ 0 by omega)
  have b := Int.emod_lt_of_pos n c0
  rw [e]
  exact ⟨wrap_i64 (by omega) (by omega), a, b⟩
theorem writeR_full {D : DM} (hi : D.has 0 = true) {bs : List Int} (hb : bs.length = 64) : writeR D 0 bs = if D.gone then (5, D) else if D.fuse = 0 then (5, { D with gone := true }) else (0, putD D 0 bs) := by
  unfold writeR
  rw [if_neg (by rw [hi, hb]; simp)]
theorem has_one {D : DM} (h : D.n = 1) : D.has 0 = true := by unfold DM.has; rw [h]; rfl
theorem putD_loose {D : DM} {i : Int} {bs : List Int} : (putD D i bs).loose.length ≤ D.loose.length + 1 := by
  show (if (mapGo i (lv D.loose) 0).isSome then D.loose else D.loose ++ [(i, D.sector i)]).length ≤ _
  split
  · omega
  · rw [List.length_append]; simp
def fusesS : Sx.Spec where
  fn := 4
  own := []
  rd := []
  res := [.one .bool]
  pre := fun xs Hs Rs => ∃ n m : Int, xs = [.int .u8 n, .int .u8 m] ∧ 0 ≤ n ∧ n < 256 ∧ 0 ≤ m ∧ m < 256
  post := fun xs Hs Rs v Hs' F => v = .bool true
def fusesNd : Nd := .and (.pre (.call 0 2 [.sv (.one (.int .i64 (.lit 1)))] [] [])) (.ext (.call 0 2 [.sv (.one (.int .i64 (.lit 1)))] [] []) (.and (.pre (.call 6 4 [] [] [])) (.ext (.call 6 4 [] [] []) (.and (.imp (.not (.bvar 4)) (.post [.hp 2 [] [.var 2] []] (.sv (.one (.bool .ff))))) (.imp (.bvar 4) (.and (.pre (.call 8 5 [.sv (.one (.hptr (.var 2) (.var 3))), .sv (.one (.int .i64 (.wrap .i64 (.rem (.var 0) (.lit 40)))))] [.hp 2 [] [.var 2] []] [])) (.ext (.call 8 5 [.sv (.one (.hptr (.var 2) (.var 3))), .sv (.one (.int .i64 (.wrap .i64 (.rem (.var 0) (.lit 40)))))] [.hp 2 [] [.var 2] []] []) (.and (.inv 0 [⟨20, 0, .int .i64 (.lit 0)⟩] [(21, some 5)]) (.havoc 0 0 7 (.and (.imp (.lt (.var 20) (.wrap .i64 (.add (.wrap .i64 (.rem (.var 0) (.lit 40))) (.wrap .i64 (.rem (.var 1) (.lit 10)))))) (.and (.pre (.call 1 22 [.sv (.one (.int .u8 (.wrap .u8 (.var 20)))), .sv (.one (.sl (.lit (-1)) (.lit 0) (.lit 0) (.lit 0)))] [] [.dead])) (.ext (.call 1 22 [.sv (.one (.int .u8 (.wrap .u8 (.var 20)))), .sv (.one (.sl (.lit (-1)) (.lit 0) (.lit 0) (.lit 0)))] [] [.dead]) (.and (.pre (.call 2 26 [.sv (.one (.hptr (.var 2) (.var 3))), .sv (.one (.int .i64 (.lit 0))), .sv (.one (.sl (.var 22) (.var 23) (.var 24) (.var 25)))] [.hp 21 [] [.var 2] []] [.hp 22 [] [.var 22] []])) (.ext (.call 2 26 [.sv (.one (.hptr (.var 2) (.var 3))), .sv (.one (.int .i64 (.lit 0))), .sv (.one (.sl (.var 22) (.var 23) (.var 24) (.var 25)))] [.hp 21 [] [.var 2] []] [.hp 22 [] [.var 22] []]) (.and (.imp (.beq (.eq (.var 26) (.lit 0)) (.lt (.var 20) (.wrap .i64 (.rem (.var 0) (.lit 40))))) (.and (.imp (.not (.eq (.var 26) (.lit 0))) (.and (.imp (.eq (.var 26) (.lit 5)) (.and (.pre (.call 9 28 [.sv (.one (.hptr (.var 2) (.var 3)))] [.hp 26 [21] [.var 2] []] [])) (.ext (.call 9 28 [.sv (.one (.hptr (.var 2) (.var 3)))] [.hp 26 [21] [.var 2] []] []) (.and (.imp (.not (.beq (.bvar 28) (.le (.wrap .i64 (.rem (.var 0) (.lit 40))) (.var 20)))) (.post [.hp 28 [26, 21] [.var 2] [], .hp 22 [] [.var 22] []] (.sv (.one (.bool .ff))))) (.imp (.beq (.bvar 28) (.le (.wrap .i64 (.rem (.var 0) (.lit 40))) (.var 20))) (.back 0 0 [⟨20, 0, .int .i64 (.wrap .i64 (.add (.var 20) (.lit 1)))⟩] [(21, some 28)])))))) (.imp (.not (.eq (.var 26) (.lit 5))) (.post [.hp 26 [21] [.var 2] [], .hp 22 [] [.var 22] []] (.sv (.one (.bool .ff))))))) (.imp (.eq (.var 26) (.lit 0)) (.and (.pre (.call 9 28 [.sv (.one (.hptr (.var 2) (.var 3)))] [.hp 26 [21] [.var 2] []] [])) (.ext (.call 9 28 [.sv (.one (.hptr (.var 2) (.var 3)))] [.hp 26 [21] [.var 2] []] []) (.and (.imp (.not (.beq (.bvar 28) (.le (.wrap .i64 (.rem (.var 0) (.lit 40))) (.var 20)))) (.post [.hp 28 [26, 21] [.var 2] [], .hp 22 [] [.var 22] []] (.sv (.one (.bool .ff))))) (.imp (.beq (.bvar 28) (.le (.wrap .i64 (.rem (.var 0) (.lit 40))) (.var 20))) (.back 0 0 [⟨20, 0, .int .i64 (.wrap .i64 (.add (.var 20) (.lit 1)))⟩] [(21, some 28)])))))))) (.imp (.not (.beq (.eq (.var 26) (.lit 0)) (.lt (.var 20) (.wrap .i64 (.rem (.var 0) (.lit 40)))))) (.post [.hp 26 [21] [.var 2] [], .hp 22 [] [.var 22] []] (.sv (.one (.bool .ff))))))))))) (.imp (.not (.lt (.var 20) (.wrap .i64 (.add (.wrap .i64 (.rem (.var 0) (.lit 40))) (.wrap .i64 (.rem (.var 1) (.lit 10))))))) (.and (.pre (.call 10 22 [.sv (.one (.hptr (.var 2) (.var 3))), .sv (.one (.sl (.lit (-1)) (.lit 0) (.lit 0) (.lit 0)))] [.hp 21 [] [.var 2] []] [.dead])) (.ext (.call 10 22 [.sv (.one (.hptr (.var 2) (.var 3))), .sv (.one (.sl (.lit (-1)) (.lit 0) (.lit 0) (.lit 0)))] [.hp 21 [] [.var 2] []] [.dead]) (.and (.pre (.call 7 24 [.sv (.one (.hptr (.var 2) (.var 3)))] [.hp 22 [21] [.var 2] []] [])) (.ext (.call 7 24 [.sv (.one (.hptr (.var 2) (.var 3)))] [.hp 22 [21] [.var 2] []] []) (.and (.imp (.eq (.var 24) (.lit 0)) (.and (.pre (.call 9 26 [.sv (.one (.hptr (.var 2) (.var 3)))] [.hp 24 [22, 21] [.var 2] []] [])) (.ext (.call 9 26 [.sv (.one (.hptr (.var 2) (.var 3)))] [.hp 24 [22, 21] [.var 2] []] []) (.post [.hp 26 [24, 22, 21] [.var 2] []] (.sv (.one (.bool (.not (.bvar 26))))))))) (.imp (.not (.eq (.var 24) (.lit 0))) (.post [.hp 24 [22, 21] [.var 2] []] (.sv (.one (.bool .ff)))))))))))))))))))))
def fusesW : Walk Try.prog lawΓ fusesS.fn where
  Λ := fun p => if lp p then some ⟨0, [(7, TI .i64 (.var 20))], [(0, .hp 21 [] [.var 2] [])], 22⟩ else none
  args := [TI .u8 (.var 0), TI .u8 (.var 1)]
  mem := []
  nv := 2
  nd := fusesNd
  ok := by kernel_rfl
structure FusesAt (k : Int) (i : Nat) (D : DM) : Prop where
  n : D.n = 1
  fuse : D.fuse = max (k - i) 0
  gone : D.gone = decide (k < i)
  few : D.loose.length ≤ i
def fusesInv (k T : Int) (_ : Nat) (q : Env) : Prop := ∃ (i : Nat) (D : DM), q.i 20 = i ∧ (i : Int) ≤ T ∧ DiskAt (q.h 21) (.pointer (slP (q.i 2) (q.i 3))) D ∧ FusesAt k i D
theorem fuses_step {k : Int} {i : Nat} {D : DM} (h : FusesAt k i D) {bs : List Int} (hb : bs.length = 64) : FusesAt k (i + 1) (writeR D 0 bs).2 ∧ ((writeR D 0 bs).1 = if (i : Int) < k then 0 else 5) := by
  obtain ⟨h1, h2, h3, h4⟩ := h
  rw [writeR_full (has_one h1) hb]
  by_cases hg : k < i
  · rw [if_pos (by rw [h3]; simpa using hg), if_neg (by omega)]
    exact ⟨⟨h1, by rw [h2]; omega, by rw [h3, decide_eq_decide]; omega, by show D.loose.length ≤ _; omega⟩, rfl⟩
  · rw [if_neg (by rw [h3]; simpa using hg)]
    by_cases hz : D.fuse = 0
    · rw [if_pos hz, if_neg (by omega)]
      refine ⟨⟨h1, by show D.fuse = _; rw [h2]; omega, ?_, by show D.loose.length ≤ _; omega⟩, rfl⟩
      show true = _
      rw [eq_comm, decide_eq_true_eq]; omega
    · rw [if_neg hz, if_pos (by omega)]
      refine ⟨⟨h1, ?_, ?_, ?_⟩, rfl⟩
      · show (if 0 < D.fuse then D.fuse - 1 else D.fuse) = _
        rw [if_pos (by omega), h2]; omega
      · show false = _
        rw [eq_comm, decide_eq_false_iff_not]; omega
      · have := @putD_loose D 0 bs
        show (putD D 0 bs).loose.length ≤ _
        omega
theorem fusesS_ok : fusesS.OK Try.prog := by
  refine Spec.of_fn (Γ := lawΓ) lawΓ_ok ?_
  rintro xs Hs Rs hl1 hl2 ⟨n, m, rfl, n0, n1, m0, m1⟩
  have e0 : Hs = [] := List.length_eq_zero_iff.1 hl1
  have e1 : Rs = [] := List.length_eq_zero_iff.1 hl2
  subst e0; subst e1
  obtain ⟨wk, k0, k1⟩ := rem_u8 n0 n1 (c := 40) (by omega) (by omega)
  obtain ⟨wm, j0, j1⟩ := rem_u8 m0 m1 (c := 10) (by omega) (by omega)
  obtain ⟨k, hk⟩ : ∃ k, k = n % 40 := ⟨_, rfl⟩
  obtain ⟨j, hj⟩ : ∃ j, j = m % 10 := ⟨_, rfl⟩
  rw [← hk] at wk k0 k1
  rw [← hj] at wm j0 j1
  refine ⟨fusesW, envI [n, m] false [], fusesInv k (k + j), fun _ q => (k + j - q.i 20).toNat, rfl, ⟨?_, ?_, ?_, ?_⟩, (fun _ h => nomatch h), ?_⟩
  · intro r hr; simp [fusesW] at hr
  · intro r hr; simp [fusesW] at hr
  · simp [fusesW]
  · intro r hr; simp [fusesW] at hr
  · show Nd.holds _ _ _ fusesNd
    generalize hρ : envI [n, m] false [] = ρ
    have v0 : ρ.i 0 = n := by rw [← hρ]; rfl
    have v1 : ρ.i 1 = m := by rw [← hρ]; rfl
    unfold fusesNd
    simp only [Nd.holds, X.pre, X.rel, X.n, Src.ok, Src.len, Src.vals, true_and, and_true, if_true, Nat.mul_one, Nat.add_zero, Nat.reduceAdd, List.length_cons, List.length_nil, bT_tt, bT_ff, bT_bvar, bT_not, bT_and, bT_or, bT_ite, bT_lt, bT_le, bT_eq, bT_beq, bT_seq, bT_hB, bT_his, bT_hby, bT_hism, bT_hks, iev_lit, iev_var, iev_rem, iev_quo, iev_add, iev_sub, iev_mul, iev_wrap, iev_ite, iev_hI, iev_hP, iev_hmlen, sev_ite, sev_slit, sev_sof, sev_svar, TV.ev, SV.ev, CV.ev, List.map_cons, List.map_nil, Res.hl, cpTV, Cp.sv, Ck.cv, cpSVs, Cp.len, Ck.len, newHs_zero, newHs_one, roots_ne, lg0, lg1, lg2, lg3, lg4, lg5, lg6, lg7, lg8, lg9, lg10, dc0, dc1, dc3, dr0, dr1, dr2, dr3, dr4, dr5, dr6, dr7, dr8, dr9, dr10, forall_const]
    refine ⟨⟨1, rfl⟩, fun q1 g1 ⟨F, ⟨n', hn, hD⟩, hF⟩ => ?_⟩
    cases hn
    have hF := hF.1 (by simp [cpRoots, Cp.roots, Ck.root])
    subst hF
    have yes : ∀ (q : Env) (mem : Mem) (e : E), bev q e = true → postOf fusesS [.int .u8 n, .int .u8 m] [] [] q mem (.sv (.one (.bool e))) := fun q mem e he _ =>
      ⟨[], [], rfl, rfl, ⟨⟨fun _ => 0, fun _ => true, fun _ => .empty, fun _ => .tuple #[], fun _ => Hl.none⟩, by show Value.bool (bev q e) = .bool true; rw [he], trivial, trivial⟩, by show Value.bool (bev q e) = .bool true; rw [he]⟩
    refine ⟨rfl, fun q2 g2 ⟨_, hv, _⟩ => ?_⟩
    have hv : q2.b 4 = true := by
      have hv : Value.bool (q2.b 4) = .bool true := hv
      simpa using hv
    have hD2 : DiskAt (q2.h 2) (.pointer (slP (q2.i 2) (q2.i 3))) (newD 1) := by rw [g2.i 2 (by omega), g2.i 3 (by omega), g2.h 2 (by omega)]; exact hD
    refine ⟨fun h => absurd hv h, fun _ => ?_⟩
    have G2 : Agree 2 ρ q2 := g1.trans (g2.mono (by omega))
    rw [G2.i 0 (by omega), v0, wk]
    refine ⟨⟨_, k, _, _, rfl, rfl, hD2, by omega⟩, fun q3 g3 ⟨_, ⟨p, n', H, D, H', hp, hH, hDD, hH', hD3⟩, _⟩ => ?_⟩
    cases hp; cases hH; cases hH'
    have e := hDD.uniq hD2
    subst e
    have hD3 : DiskAt (q3.h 5) (.pointer (slP (q3.i 2) (q3.i 3))) (fuseD (newD 1) k) := by rw [g3.i 2 (by omega), g3.i 3 (by omega)]; exact hD3
    refine ⟨⟨0, _, rfl, by omega, hD3, rfl, ?_, ?_, Nat.le_refl _⟩, fun q4 g4 ⟨i, D, hi, hiT, hD4, hF⟩ => ?_⟩
    · show max k (-1) = max (k - ((0 : Nat) : Int)) 0
      omega
    · show false = decide (k < ((0 : Nat) : Int))
      rw [eq_comm, decide_eq_false_iff_not]; omega
    have G4 : Agree 2 ρ q4 := G2.trans ((g3.mono (by omega)).trans (g4.mono (by omega)))
    have wT : ∀ q, Agree 2 ρ q → IntKind.i64.wrap (IntKind.i64.wrap ((q.i 0).tmod 40) + IntKind.i64.wrap ((q.i 1).tmod 10)) = k + j := by
      intro q g
      rw [g.i 0 (by omega), g.i 1 (by omega), v0, v1, wk, wm]
      exact wrap_i64 (by omega) (by omega)
    rw [wT q4 G4, hi]
    refine ⟨fun hlt => ?_, fun hge => ?_⟩
    · refine ⟨⟨_, _, [], Hl.none, rfl, rfl, -1, 0, 0, rfl, by omega, Or.inl rfl⟩, fun q5 g5 ⟨F5, ⟨c, u, bs, R, hx, hR, hrd, how⟩, hF5, _⟩ => ?_⟩
      cases hx; cases hR
      have hF5 := hF5 (by simp [cpRoots, Cp.roots, Ck.root])
      subst hF5
      have e2 : bs = [] := hrd.uniq ⟨-1, 0, 0, rfl, by omega, Or.inl rfl⟩
      subst e2
      obtain ⟨B, hB⟩ : ∃ B, B = fullL (IntKind.u8.wrap (i : Int)) [] := ⟨_, rfl⟩
      rw [← hB] at how
      have hBl : B.length = 64 := by rw [hB]; exact fullL_length _ _
      have hD5 : DiskAt (q5.h 21) (.pointer (slP (q5.i 2) (q5.i 3))) D := by rw [g5.i 2 (by omega), g5.i 3 (by omega), g5.h 21 (by omega)]; exact hD4
      refine ⟨⟨_, 0, _, B, _, _, D, rfl, rfl, rfl, hD5, how.rd⟩, fun q6 g6 ⟨_, ⟨p, i', u, bs, H, R, DD, H', hp, hH, hR, hDD, hrd', hH', hD6, hv6⟩, _⟩ => ?_⟩
      cases hp; cases hH; cases hH'; cases hR
      have e := hDD.uniq hD5
      subst e
      have e2 := hrd'.uniq how.rd
      subst e2
      obtain ⟨hs, hr⟩ := fuses_step hF hBl
      rw [hr] at hv6
      simp only [Value.int.injEq, true_and] at hv6
      have hD6 : DiskAt (q6.h 26) (.pointer (slP (q6.i 2) (q6.i 3))) (writeR DD 0 bs).2 := by rw [g6.i 2 (by omega), g6.i 3 (by omega)]; exact hD6
      have g46 : Agree 22 q4 q6 := g5.trans (g6.mono (by omega))
      have G6 : Agree 2 ρ q6 := G4.trans (g46.mono (by omega))
      have j20 : q6.i 20 = i := by rw [g46.i 20 (by omega), hi]
      have w6 : ∀ q, Agree 2 ρ q → IntKind.i64.wrap ((q.i 0).tmod 40) = k := fun q g => by rw [g.i 0 (by omega), v0, wk]
      rw [w6 q6 G6, j20]
      have c1 : (q6.i 26 = 0) = ((i : Int) < k) := by
        rw [hv6]
        refine propext ⟨fun h => ?_, fun h => if_pos h⟩
        split at h
        · assumption
        · cases h
      refine ⟨fun _ => ⟨fun hA => ⟨fun hC => ?g1, fun hC => ?_⟩, fun hA => ?g2⟩, fun h => absurd c1 h⟩
      case g1 | g2 =>
        refine ⟨⟨_, _, _, rfl, rfl, hD6⟩, fun q7 g7 ⟨_, ⟨p, H, D', H', hp, hH, hDD, hH', hD7, hv7⟩, _⟩ => ?_⟩
        cases hp; cases hH; cases hH'
        have e := hDD.uniq hD6
        subst e
        have hv7 : q7.b 28 = (writeR DD 0 bs).2.gone := by
          have hv7 : Value.bool (q7.b 28) = .bool (writeR DD 0 bs).2.gone := hv7
          simpa using hv7
        rw [hs.gone] at hv7
        have k20 : q7.i 20 = i := by rw [g7.i 20 (by omega), j20]
        rw [w6 q7 (G6.trans (g7.mono (by omega))), k20]
        have c2 : (q7.b 28 = true) = (k ≤ (i : Int)) := by
          rw [hv7, decide_eq_true_eq]
          exact propext ⟨fun h => by omega, fun h => by omega⟩
        have m20 : (assign q7 [⟨20, 0, .int .i64 (.wrap .i64 (.add (.var 20) (.lit 1)))⟩] [(21, some 28)]).i 20 = i + 1 := by
          show IntKind.i64.wrap (q7.i 20 + 1) = _
          rw [k20]
          exact wrap_i64 (by omega) (by omega)
        refine ⟨fun h => absurd c2 h, fun _ => ⟨⟨i + 1, _, by rw [m20]; omega, by omega, ?_, hs⟩, ?_⟩⟩
        · show DiskAt (q7.h 28) (.pointer (slP (q7.i 2) (q7.i 3))) _
          rw [g7.i 2 (by omega), g7.i 3 (by omega)]; exact hD7
        · show (k + j - (assign q7 [⟨20, 0, .int .i64 (.wrap .i64 (.add (.var 20) (.lit 1)))⟩] [(21, some 28)]).i 20).toNat < (k + j - (i : Int)).toNat
          rw [m20]; omega
      · refine absurd ?_ hC
        rw [hv6, if_neg (fun h => hA (by rw [c1]; exact h))]
    · refine ⟨⟨_, _, [], _, _, D, rfl, rfl, rfl, hD4, ⟨-1, 0, 0, rfl, by omega, Or.inl rfl⟩, (fun _ h => nomatch h), by have := hF.few; omega⟩, fun q5 g5 ⟨_, ⟨p, u, bs, H, R, DD, H', hp, hH, hR, hDD, hrd, hH', hD5⟩, _⟩ => ?_⟩
      cases hp; cases hH; cases hH'; cases hR
      have e := hDD.uniq hD4
      subst e
      have e2 : bs = [] := hrd.uniq ⟨-1, 0, 0, rfl, by omega, Or.inl rfl⟩
      subst e2
      have hD5 : DiskAt (q5.h 22) (.pointer (slP (q5.i 2) (q5.i 3))) (crashD DD []) := by rw [g5.i 2 (by omega), g5.i 3 (by omega)]; exact hD5
      refine ⟨⟨_, _, _, rfl, rfl, hD5⟩, fun q6 g6 ⟨_, ⟨p, H, D2, H', hp, hH, hDD, hH', hD6, hv6⟩, _⟩ => ?_⟩
      cases hp; cases hH; cases hH'
      have e := hDD.uniq hD5
      subst e
      have sR : syncR (crashD DD []) = (0, ⟨(crashD DD []).n, (crashD DD []).now, [], -1, false⟩) := by
        unfold syncR
        rw [if_neg (by show ¬ (false = true); simp), if_neg (by show ¬ ((-1 : Int) = 0); omega)]
        rfl
      rw [sR] at hv6 hD6
      simp only [Value.int.injEq, true_and] at hv6
      have hD6 : DiskAt (q6.h 24) (.pointer (slP (q6.i 2) (q6.i 3))) ⟨(crashD DD []).n, (crashD DD []).now, [], -1, false⟩ := by rw [g6.i 2 (by omega), g6.i 3 (by omega)]; exact hD6
      refine ⟨fun _ => ?_, fun h => absurd hv6 h⟩
      refine ⟨⟨_, _, _, rfl, rfl, hD6⟩, fun q7 g7 ⟨_, ⟨p, H, D3, H', hp, hH, hDD, hH', hD7, hv7⟩, _⟩ => ?_⟩
      cases hp; cases hH; cases hH'
      have e := hDD.uniq hD6
      subst e
      have hv7 : Value.bool (q7.b 26) = .bool false := hv7
      simp only [Value.bool.injEq] at hv7
      refine yes _ _ _ ?_
      rw [bev_not, bev_bvar, hv7]; rfl
end Go.Proofs.Ytdohcabnaihaoaa
