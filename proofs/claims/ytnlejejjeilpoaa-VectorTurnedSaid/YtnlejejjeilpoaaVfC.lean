/- Headers compared; few; tokens cloned; Ready: contracts. -/
import Derived.Test.YtnlejejjeilpoaaVfB
set_option linter.unusedSimpArgs false
set_option linter.unusedVariables false
set_option linter.constructorNameAsVariable false
namespace Go.Proofs.Ytnlejejjeilpoaa.V2
open Go Go.Sx

def rowN (q : Env) (n : Nat) : List Value := (Sx.ckCVs n hk2).map (CV.ev q)
theorem rowN_eq (q : Env) (n : Nat) : rowN q n = (Sx.ckCVs n hA).map (CV.ev q) ++ (.slice (slP (q.i (n + 53)) (q.i (n + 54))) (q.i (n + 55)).toNat (q.i (n + 56)).toNat :: (Sx.ckCVs (n + 57) hB).map (CV.ev q)) := by
  unfold rowN hk2
  rw [ck_append, List.map_append]
  rfl
theorem hA_len2 (q : Env) (n : Nat) : ((Sx.ckCVs n hA).map (CV.ev q)).length = 53 := rfl
theorem rowN_lo {q : Env} {n j : Nat} (h : j < 53) (h35 : j ≠ 35) : cI (rowN q n) j = q.i (n + j) := by
  have hi := hA_int j h h35
  unfold cI
  rw [rowN_eq, List.getElem?_append_left (by rw [hA_len2]; exact h), List.getElem?_map, ck_get _ _ _ hA_len1]
  cases hk : hA[j]? with
  | none => rw [hk] at hi; cases hi
  | some k =>
    rw [hk] at hi
    cases k <;> simp [isI] at hi
    simp [Ck.cv, CV.ev, valI, iev_var]
theorem rowN_hi {q : Env} {n j : Nat} (h : 54 ≤ j) (h2 : j < 125) : cI (rowN q n) j = q.i (n + j + 3) := by
  obtain ⟨i, rfl⟩ : ∃ i, j = 54 + i := ⟨j - 54, by omega⟩
  have hi := hB_int i (by omega)
  unfold cI
  rw [rowN_eq, List.getElem?_append_right (by rw [hA_len2]; omega), hA_len2, show 54 + i - 53 = i + 1 by omega, List.getElem?_cons_succ, List.getElem?_map, ck_get _ _ _ hB_len1]
  cases hk : hB[i]? with
  | none => rw [hk] at hi; cases hi
  | some k =>
    rw [hk] at hi
    cases k <;> simp [isI] at hi
    simp [Ck.cv, CV.ev, valI, iev_var]
    congr 1; omega
theorem row_envN {row : List Value} (h : rowOK row hkd) (n : Nat) (ρ : Env) : ∃ q : Env, Agree n ρ q ∧ row = rowN q n ∧ 0 ≤ q.i (n + 54) ∧ 0 ≤ q.i (n + 55) ∧ 0 ≤ q.i (n + 56) := by
  obtain ⟨q, a, hn, e⟩ := row_rep hk2 n row ρ h
  have hs : ∀ (a b : List Ck) (n : Nat), ckNormsW n (a ++ b) q → ckNormsW (n + ckLen a) b q := by
    intro a
    induction a with
    | nil => intro b n h; simpa [ckLen] using h
    | cons k a ih =>
      intro b n h
      have := ih b (n + k.len) h.2
      rw [show n + k.len + ckLen a = n + ckLen (k :: a) by simp [ckLen]; omega] at this
      exact this
  have hn : ckNormsW n (hA ++ (.sl :: hB)) q := hn
  have hs := (hs hA (.sl :: hB) n hn).1
  exact ⟨q, a, e.symm, hs.2.1, hs.2.2.1, hs.2.2.2⟩
set_option maxRecDepth 20000 in
theorem hk2_len : ckLen hk2 = 128 := by decide
theorem rowN_ag {q q' : Env} {n m : Nat} (h : Agree m q q') (hm : n + 128 ≤ m) : rowN q' n = rowN q n := by
  unfold rowN
  exact CV.agreeL (h.mono (by rw [hk2_len]; exact hm)) _ (ckCVs_upto hk2 n)

/-! ### first -/
def orI (x y : Int) : Int := if x = 0 then y else x
def orS : Sx.Spec where
  fn := 35
  own := []
  rd := [0]
  res := [.one (.int .i64)]
  pre := fun xs Hs Rs => ∃ a x y R, xs = [.slice (slP a 0) 2 2] ∧ Rs = [R] ∧ 0 ≤ a ∧ R.cell a.toNat 0 = some (.int .i64 x) ∧ R.cell a.toNat 1 = some (.int .i64 y)
  post := fun xs Hs Rs v Hs' F => ∃ a x y R, xs = [.slice (slP a 0) 2 2] ∧ Rs = [R] ∧ 0 ≤ a ∧ R.cell a.toNat 0 = some (.int .i64 x) ∧ R.cell a.toNat 1 = some (.int .i64 y) ∧ v = .int .i64 (orI x y)
def orNd : Nd := .and (.e (.le (.lit 0) (.var 0))) (.and (.e (.his 1 (.var 0) (.lit 0) 0 (.int .i64))) (.and (.imp (.not (.eq (.hI 1 (.var 0) (.lit 0) 0) (.lit 0))) (.post [.ro 1 [.var 0] false] (.sv (.one (.int .i64 (.hI 1 (.var 0) (.lit 0) 0)))))) (.imp (.eq (.hI 1 (.var 0) (.lit 0) 0) (.lit 0)) (.and (.e (.his 1 (.var 0) (.lit 1) 0 (.int .i64))) (.and (.imp (.not (.eq (.hI 1 (.var 0) (.lit 1) 0) (.lit 0))) (.post [.ro 1 [.var 0] false] (.sv (.one (.int .i64 (.hI 1 (.var 0) (.lit 1) 0)))))) (.imp (.eq (.hI 1 (.var 0) (.lit 1) 0) (.lit 0)) (.post [.ro 1 [.var 0] false] (.sv (.one (.int .i64 (.lit 0)))))))))))
def orW : Walk Try.prog [] orS.fn where
  Λ := noLoops
  args := [.sv (.one (.sl (.var 0) (.lit 0) (.lit 2) (.lit 2)))]
  mem := [.ro 1 [.var 0] false]
  nv := 2
  nd := orNd
  ok := by kernel_rfl
theorem orS_ok : orS.OK Try.prog := by
  refine Spec.of_fn (Γ := []) (fun _ h => by cases h) ?_
  rintro xs Hs Rs hl1 hl2 ⟨a, x, y, R, rfl, rfl, ha, hx, hy⟩
  have e0 : Hs = [] := List.length_eq_zero_iff.1 hl1
  subst e0
  refine ⟨orW, envI [a] false [Hl.none, R], fun _ _ => True, fun _ _ => 0, rfl, ⟨?_, ?_, ?_, ?_⟩, (fun _ h => nomatch h), ?_⟩
  · intro r hr ho; simp [orW] at hr; subst hr; cases ho
  · intro r hr ho; simp [orW] at hr; subst hr; exact ⟨R, by simp, Hl.le_refl _⟩
  · simp [orW]
  · intro r hr; simp [orW] at hr; subst hr; trivial
  · show Nd.holds _ _ _ orNd
    unfold orNd
    generalize hρ : envI [a] false [Hl.none, R] = ρ
    have v0 : ρ.i 0 = a := by rw [← hρ]; rfl
    have w1 : ρ.h 1 = R := by rw [← hρ]; rfl
    have out : ∀ (q : Env) (mem : Mem) (e : E), iev q e = orI x y → postOf orS [.slice (slP a 0) 2 2] [] [R] q mem (.sv (.one (.int .i64 e))) := fun q mem e he =>
      outOf rfl (v := .int .i64 (orI x y)) (by show Value.int .i64 (iev q e) = _; rw [he]) (shI rfl _) ⟨a, x, y, R, rfl, rfl, ha, hx, hy, rfl⟩
    simp only [Nd.holds, X.pre, X.rel, X.n, Src.ok, Src.len, Src.vals, true_and, and_true, if_true, Nat.mul_one, Nat.add_zero, Nat.reduceAdd, List.length_cons, List.length_nil, bT_tt, bT_ff, bT_bvar, bT_not, bT_and, bT_or, bT_ite, bT_lt, bT_le, bT_eq, bT_beq, bT_seq, bT_hB, bT_his, bT_hby, bT_hism, bT_hks, iev_lit, iev_var, iev_add, iev_sub, iev_mul, iev_wrap, iev_ite, iev_hI, iev_hP, iev_hmlen, sev_ite, sev_slit, sev_sof, sev_svar, TV.ev, SV.ev, CV.ev, List.map_cons, List.map_nil, Res.hl]
    have z0 : (0 : Int).toNat = 0 := rfl
    have z1 : (1 : Int).toNat = 1 := rfl
    rw [v0, w1, z0, z1, hx, hy]
    refine ⟨ha, rfl, fun h => out ρ _ _ ?_, fun h => ⟨rfl, fun h2 => out ρ _ _ ?_, fun h2 => out ρ _ _ ?_⟩⟩
    · simp only [iev_hI, iev_var, iev_lit, v0, w1, z0, Nat.add_zero, hx]
      have h : ¬ x = 0 := h
      unfold orI; rw [if_neg h]; rfl
    · simp only [iev_hI, iev_var, iev_lit, v0, w1, z1, Nat.add_zero, hy]
      have h : x = 0 := h
      unfold orI; rw [if_pos h]; rfl
    · have h : x = 0 := h
      have h2 : y = 0 := h2
      unfold orI; rw [if_pos h, h2]; rfl
def firstI (r1 r2 : List Value) : Int := orI (cmpI (cI r1 36) (cI r2 36)) (cmpI (cI r1 0) (cI r2 0))
def firstS : Sx.Spec where
  fn := 27
  own := []
  rd := []
  res := [.one (.int .i64)]
  pre := fun xs Hs Rs => ∃ r1 r2, xs = [.agg r1.toArray, .agg r2.toArray] ∧ rowOK r1 hkd ∧ rowOK r2 hkd
  post := fun xs Hs Rs v Hs' F => ∃ r1 r2, xs = [.agg r1.toArray, .agg r2.toArray] ∧ v = .int .i64 (firstI r1 r2)
def firstNd : Nd := .ext (.alloc 256) (.ext (.alloc 257) (.and (.pre (.call 0 258 [.sv (.one (.int .u64 (.var 36))), .sv (.one (.int .u64 (.var 164)))] [] [])) (.ext (.call 0 258 [.sv (.one (.int .u64 (.var 36))), .sv (.one (.int .u64 (.var 164)))] [] []) (.and (.pre (.call 1 259 [.sv (.one (.int .i64 (.var 0))), .sv (.one (.int .i64 (.var 128)))] [] [])) (.ext (.call 1 259 [.sv (.one (.int .i64 (.var 0))), .sv (.one (.int .i64 (.var 128)))] [] []) (.ext (.alloc 260) (.and (.pre (.call 2 261 [.sv (.one (.sl (.var 260) (.lit 0) (.lit 2) (.lit 2)))] [] [.blk 260 [.int .i64 (.var 258), .int .i64 (.var 259)] 3])) (.ext (.call 2 261 [.sv (.one (.sl (.var 260) (.lit 0) (.lit 2) (.lit 2)))] [] [.blk 260 [.int .i64 (.var 258), .int .i64 (.var 259)] 3]) (.post [.dead, .dead, .dead] (.sv (.one (.int .i64 (.var 261)))))))))))))
def fΓ : List Sx.Spec := [cmpuS, cmpiS, orS]
theorem fΓ_ok : ∀ t ∈ fΓ, t.OK Try.prog := fun t ht => by
  simp only [fΓ, List.mem_cons, List.mem_nil_iff, or_false] at ht
  rcases ht with rfl | rfl | rfl
  · exact cmpuS_ok
  · exact cmpiS_ok
  · exact orS_ok
theorem fg0 : fΓ[0]? = some cmpuS := rfl
theorem fg1 : fΓ[1]? = some cmpiS := rfl
theorem fg2 : fΓ[2]? = some orS := rfl
theorem fr0 : cmpuS.res = [.one (.int .i64)] := rfl
theorem fr1 : cmpiS.res = [.one (.int .i64)] := rfl
theorem fr2 : orS.res = [.one (.int .i64)] := rfl
def firstW : Walk Try.prog fΓ firstS.fn where
  Λ := noLoops
  args := [.sv (.agg (Sx.ckCVs 0 hk2)), .sv (.agg (Sx.ckCVs 128 hk2))]
  mem := []
  nv := 256
  nd := firstNd
  ok := by kernel_rfl
theorem firstS_ok : firstS.OK Try.prog := by
  refine Spec.of_fn (Γ := fΓ) fΓ_ok ?_
  rintro xs Hs Rs hl1 hl2 ⟨r1, r2, rfl, h1, h2⟩
  have e0 : Hs = [] := List.length_eq_zero_iff.1 hl1
  have e1 : Rs = [] := List.length_eq_zero_iff.1 hl2
  subst e0; subst e1
  obtain ⟨ρ1, _, e1, _⟩ := row_envN h1 0 (envI [] false [])
  obtain ⟨ρ, a, e2, _⟩ := row_envN h2 128 ρ1
  rw [← rowN_ag a (by decide)] at e1
  refine ⟨firstW, ρ, fun _ _ => True, fun _ _ => 0, by rw [e1, e2]; rfl, entry0, (fun _ h => nomatch h), ?_⟩
  show Nd.holds _ _ _ firstNd
  unfold firstNd
  have t1 : cI r1 36 = ρ.i 36 := by rw [e1, rowN_lo (by decide) (by decide)]
  have w1 : cI r1 0 = ρ.i 0 := by rw [e1, rowN_lo (by decide) (by decide)]
  have t2 : cI r2 36 = ρ.i 164 := by rw [e2, rowN_lo (by decide) (by decide)]
  have w2 : cI r2 0 = ρ.i 128 := by rw [e2, rowN_lo (by decide) (by decide)]
  simp only [Nd.holds, X.pre, X.rel, X.n, Src.ok, Src.len, Src.vals, true_and, and_true, if_true, Nat.mul_one, Nat.add_zero, Nat.reduceAdd, List.length_cons, List.length_nil, bT_tt, bT_ff, bT_bvar, bT_not, bT_and, bT_or, bT_ite, bT_lt, bT_le, bT_eq, bT_beq, bT_seq, bT_hB, bT_his, bT_hby, bT_hism, bT_hks, iev_lit, iev_var, iev_add, iev_sub, iev_mul, iev_wrap, iev_ite, iev_hI, iev_hP, iev_hmlen, sev_ite, sev_slit, sev_sof, sev_svar, TV.ev, SV.ev, CV.ev, List.map_cons, List.map_nil, Res.hl, cpTV, Cp.sv, Ck.cv, cpSVs, Cp.len, Ck.len, newHs_zero, newHs_one, roots_ne, fg0, fg1, fg2, fr0, fr1, fr2]
  intro q1 g1 _ q2 g2 _
  have P2 : Agree 256 ρ q2 := g1.trans (g2.mono (by omega))
  refine ⟨⟨_, _, rfl⟩, fun q3 g3 ⟨F3, hp3, _, _⟩ => ?_⟩
  have h3 := two_post hp3
  have h3 : q3.i 258 = cmpI (cI r1 36) (cI r2 36) := by
    rw [t1, t2, ← P2.i 36 (by omega), ← P2.i 164 (by omega)]; simpa using h3
  refine ⟨⟨_, _, rfl⟩, fun q4 g4 ⟨F4, hp4, _, _⟩ => ?_⟩
  have h4 := two_post hp4
  have P3 : Agree 256 ρ q3 := P2.trans (g3.mono (by omega))
  have h4 : q4.i 259 = cmpI (cI r1 0) (cI r2 0) := by
    rw [w1, w2, ← P3.i 0 (by omega), ← P3.i 128 (by omega)]; simpa using h4
  intro q5 g5 p5
  have c0 : (Hl.one (q5.i 260).toNat (.cells #[Value.int .i64 (q5.i 258), Value.int .i64 (q5.i 259)] 3 (0, 0))).cell (q5.i 260).toNat 0 = some (.int .i64 (q5.i 258)) := by rw [Hl.one_cell]; rfl
  have c1 : (Hl.one (q5.i 260).toNat (.cells #[Value.int .i64 (q5.i 258), Value.int .i64 (q5.i 259)] 3 (0, 0))).cell (q5.i 260).toNat 1 = some (.int .i64 (q5.i 259)) := by rw [Hl.one_cell]; rfl
  refine ⟨⟨q5.i 260, _, _, _, rfl, rfl, p5, c0, c1⟩, fun q6 g6 ⟨F6, ⟨a', x', y', R', hx, hR, _, d0, d1, hv⟩, _, _⟩ => ?_⟩
  have hR : Hl.one (q5.i 260).toNat (.cells #[Value.int .i64 (q5.i 258), Value.int .i64 (q5.i 259)] 3 (0, 0)) = R' := by simpa using hR
  subst hR
  have hx : Value.slice (slP (q5.i 260) 0) 2 2 = .slice (slP a' 0) 2 2 := by
    have h1 : [Value.slice (slP (q5.i 260) 0) 2 2] = [.slice (slP a' 0) 2 2] := hx
    simpa using h1
  have ha : q5.i 260 = a' := by
    simp only [Value.slice.injEq, and_true] at hx
    have h0 := slP_lo p5 hx.symm
    rw [slP_pos p5, slP_pos h0] at hx
    simp only [Option.some.injEq, Addr.mk.injEq, and_true] at hx
    omega
  subst ha
  rw [c0] at d0
  rw [c1] at d1
  have d0 : q5.i 258 = x' := by simpa using d0
  have d1 : q5.i 259 = y' := by simpa using d1
  refine outOf rfl (v := .int .i64 (firstI r1 r2)) ?_ (shI rfl _) ⟨r1, r2, rfl, rfl⟩
  unfold firstI
  rw [← h3, ← h4, ← g4.i 258 (by omega), ← g5.i 258 (by omega), ← g5.i 259 (by omega), d0, d1]
  exact hv
end Go.Proofs.Ytnlejejjeilpoaa.V2
