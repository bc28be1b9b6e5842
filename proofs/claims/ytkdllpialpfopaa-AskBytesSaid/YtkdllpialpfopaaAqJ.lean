/- Layer 22: the reference's numbers and Piece, as contracts. Condition: at most 900000 bytes. -/
import Derived.Test.YtkdllpialpfopaaAqI
set_option linter.unusedSimpArgs false
set_option linter.unusedVariables false
set_option linter.constructorNameAsVariable false
namespace Go.Proofs.Ytkdllpialpfopaa
open Go Go.Sx Go.Pk

def rnumsS : Sx.Spec where
  fn := 37
  own := []
  rd := []
  res := [.one .sl]
  pre := fun xs Hs Rs => ∃ vs, xs = [.agg (us vs).toArray] ∧ vs.length = 6 ∧ u64s vs
  post := fun xs Hs Rs v Hs' F => ∃ vs, xs = [.agg (us vs).toArray] ∧ OwB F 5 v (vecB vs)
def rnumsNd : Nd := .ext (.alloc 6) (.and (.pre (.call 0 7 [.sv (.one (.int .u64 (.var 0)))] [] [])) (.ext (.call 0 7 [.sv (.one (.int .u64 (.var 0)))] [] []) (.and (.pre (.app 11 5 1 1 (.sl (.lit (-1)) (.lit 0) (.lit 0) (.lit 0)) (.lit 0) .dead (.seg 7 (.var 7) (.var 8) (.var 9)))) (.ext (.app 11 5 1 1 (.sl (.lit (-1)) (.lit 0) (.lit 0) (.lit 0)) (.lit 0) .dead (.seg 7 (.var 7) (.var 8) (.var 9))) (.and (.pre (.call 0 13 [.sv (.one (.int .u64 (.var 1)))] [] [])) (.ext (.call 0 13 [.sv (.one (.int .u64 (.var 1)))] [] []) (.and (.pre (.app 17 5 1 1 (.sl (.var 11) (.lit 0) (.var 9) (.var 12)) (.var 9) (.hp 11 [] [.var 11] []) (.seg 13 (.var 13) (.var 14) (.var 15)))) (.ext (.app 17 5 1 1 (.sl (.var 11) (.lit 0) (.var 9) (.var 12)) (.var 9) (.hp 11 [] [.var 11] []) (.seg 13 (.var 13) (.var 14) (.var 15))) (.and (.pre (.call 0 19 [.sv (.one (.int .u64 (.var 2)))] [] [])) (.ext (.call 0 19 [.sv (.one (.int .u64 (.var 2)))] [] []) (.and (.pre (.app 23 5 1 1 (.sl (.var 17) (.lit 0) (.add (.var 9) (.var 15)) (.var 18)) (.add (.var 9) (.var 15)) (.hp 17 [11] [.var 17, .var 11] []) (.seg 19 (.var 19) (.var 20) (.var 21)))) (.ext (.app 23 5 1 1 (.sl (.var 17) (.lit 0) (.add (.var 9) (.var 15)) (.var 18)) (.add (.var 9) (.var 15)) (.hp 17 [11] [.var 17, .var 11] []) (.seg 19 (.var 19) (.var 20) (.var 21))) (.and (.pre (.call 0 25 [.sv (.one (.int .u64 (.var 3)))] [] [])) (.ext (.call 0 25 [.sv (.one (.int .u64 (.var 3)))] [] []) (.and (.pre (.app 29 5 1 1 (.sl (.var 23) (.lit 0) (.add (.add (.var 9) (.var 15)) (.var 21)) (.var 24)) (.add (.add (.var 9) (.var 15)) (.var 21)) (.hp 23 [17, 11] [.var 23, .var 17, .var 11] []) (.seg 25 (.var 25) (.var 26) (.var 27)))) (.ext (.app 29 5 1 1 (.sl (.var 23) (.lit 0) (.add (.add (.var 9) (.var 15)) (.var 21)) (.var 24)) (.add (.add (.var 9) (.var 15)) (.var 21)) (.hp 23 [17, 11] [.var 23, .var 17, .var 11] []) (.seg 25 (.var 25) (.var 26) (.var 27))) (.and (.pre (.call 0 31 [.sv (.one (.int .u64 (.var 4)))] [] [])) (.ext (.call 0 31 [.sv (.one (.int .u64 (.var 4)))] [] []) (.and (.pre (.app 35 5 1 1 (.sl (.var 29) (.lit 0) (.add (.add (.add (.var 9) (.var 15)) (.var 21)) (.var 27)) (.var 30)) (.add (.add (.add (.var 9) (.var 15)) (.var 21)) (.var 27)) (.hp 29 [23, 17, 11] [.var 29, .var 23, .var 17, .var 11] []) (.seg 31 (.var 31) (.var 32) (.var 33)))) (.ext (.app 35 5 1 1 (.sl (.var 29) (.lit 0) (.add (.add (.add (.var 9) (.var 15)) (.var 21)) (.var 27)) (.var 30)) (.add (.add (.add (.var 9) (.var 15)) (.var 21)) (.var 27)) (.hp 29 [23, 17, 11] [.var 29, .var 23, .var 17, .var 11] []) (.seg 31 (.var 31) (.var 32) (.var 33))) (.and (.pre (.call 0 37 [.sv (.one (.int .u64 (.var 5)))] [] [])) (.ext (.call 0 37 [.sv (.one (.int .u64 (.var 5)))] [] []) (.and (.pre (.app 41 5 1 1 (.sl (.var 35) (.lit 0) (.add (.add (.add (.add (.var 9) (.var 15)) (.var 21)) (.var 27)) (.var 33)) (.var 36)) (.add (.add (.add (.add (.var 9) (.var 15)) (.var 21)) (.var 27)) (.var 33)) (.hp 35 [29, 23, 17, 11] [.var 35, .var 29, .var 23, .var 17, .var 11] []) (.seg 37 (.var 37) (.var 38) (.var 39)))) (.ext (.app 41 5 1 1 (.sl (.var 35) (.lit 0) (.add (.add (.add (.add (.var 9) (.var 15)) (.var 21)) (.var 27)) (.var 33)) (.var 36)) (.add (.add (.add (.add (.var 9) (.var 15)) (.var 21)) (.var 27)) (.var 33)) (.hp 35 [29, 23, 17, 11] [.var 35, .var 29, .var 23, .var 17, .var 11] []) (.seg 37 (.var 37) (.var 38) (.var 39))) (.post [.dead, .hp 7 [] [.var 7] [], .hp 41 [35, 29, 23, 17, 11] [.var 41, .var 35, .var 29, .var 23, .var 17, .var 11] [], .hp 13 [] [.var 13] [], .hp 19 [] [.var 19] [], .hp 25 [] [.var 25] [], .hp 31 [] [.var 31] [], .hp 37 [] [.var 37] []] (.sv (.one (.sl (.var 41) (.lit 0) (.add (.add (.add (.add (.add (.var 9) (.var 15)) (.var 21)) (.var 27)) (.var 33)) (.var 39)) (.var 42)))))))))))))))))))))))))))))
def rnumsW : Walk Try.prog [rnumS] 37 where
  Λ := noLoops
  args := [.sv (.agg (ckCVs 0 (List.replicate 6 (.int .u64))))]
  mem := []
  nv := 6
  nd := rnumsNd
  ok := by kernel_rfl
theorem rnumsS_ok : rnumsS.OK Try.prog := by
  refine Spec.of_fn (Γ := [rnumS]) (fun t ht => by rw [List.mem_singleton] at ht; subst ht; exact rnumS_ok) ?_
  rintro xs Hs Rs hl1 hl2 ⟨vs, rfl, h6, hu⟩
  have e0 : Hs = [] := List.length_eq_zero_iff.1 hl1
  have e1 : Rs = [] := List.length_eq_zero_iff.1 hl2
  subst e0 e1
  match vs, h6 with
  | [v1, v2, v3, v4, v5, v6], _ =>
  have hv : ∀ z ∈ [v1, v2, v3, v4, v5, v6], 0 ≤ z ∧ z < 18446744073709551616 := hu
  simp only [List.mem_cons, List.mem_nil_iff, or_false, forall_eq_or_imp, forall_eq] at hv
  obtain ⟨u1, u2, u3, u4, u5, u6⟩ := hv
  refine ⟨rnumsW, envI [v1, v2, v3, v4, v5, v6] false [], fun _ _ => True, fun _ _ => 0, rfl, ⟨?_, ?_, ?_, ?_⟩, (fun _ h => nomatch h), ?_⟩
  · intro r hr; cases hr
  · intro r hr; cases hr
  · exact List.Pairwise.nil
  · intro r hr; cases hr
  · show Nd.holds _ _ _ rnumsNd
    generalize hρ : envI [v1, v2, v3, v4, v5, v6] false [] = ρ
    have w0 : ρ.i 0 = v1 := by rw [← hρ]; rfl
    have w1 : ρ.i 1 = v2 := by rw [← hρ]; rfl
    have w2 : ρ.i 2 = v3 := by rw [← hρ]; rfl
    have w3 : ρ.i 3 = v4 := by rw [← hρ]; rfl
    have w4 : ρ.i 4 = v5 := by rw [← hρ]; rfl
    have w5 : ρ.i 5 = v6 := by rw [← hρ]; rfl
    clear hρ
    unfold rnumsNd
    simp only [Nd.holds, X.pre, X.rel, X.n, Src.ok, Src.len, Src.vals, true_and, and_true, if_true, Nat.mul_one, Nat.add_zero, Nat.reduceAdd, List.length_cons, List.length_nil, bT_tt, bT_ff, bT_bvar, bT_not, bT_and, bT_or, bT_ite, bT_lt, bT_le, bT_eq, bT_beq, bT_seq, bT_hB, bT_his, bT_hby, bT_hism, bT_hks, iev_lit, iev_var, iev_add, iev_sub, iev_mul, iev_wrap, iev_ite, iev_hI, iev_hP, iev_hmlen, sev_ite, sev_slit, sev_sof, sev_svar, TV.ev, SV.ev, CV.ev, List.map_cons, List.map_nil, Res.hl, cpTV, Cp.sv, Ck.cv, cpSVs, Cp.len, Ck.len, newHs_zero, newHs_one, roots_ne, rtg0, rcr0, rcc0]
    intro q0 g0 _
    simp only [g0.i, Nat.reduceLT, w0, w1, w2, w3, w4, w5]
    refine rnumB u1 fun q1 g1 N1 => ?_
    try simp only [g1.i, g1.h, g0.i, g0.h, Nat.reduceLT, w0, w1, w2, w3, w4, w5]
    refine segB BP.nil N1.sp (by omega) fun q2 g2 P2 => ?_
    rw [Int.zero_add] at P2
    try simp only [g2.i, g2.h, g1.i, g1.h, g0.i, g0.h, Nat.reduceLT, w0, w1, w2, w3, w4, w5]
    refine rnumB u2 fun q3 g3 N3 => ?_
    try simp only [g3.i, g3.h, g2.i, g2.h, g1.i, g1.h, g0.i, g0.h, Nat.reduceLT, w0, w1, w2, w3, w4, w5]
    refine segB P2 N3.sp (by omega) fun q4 g4 P4 => ?_
    try simp only [g4.i, g4.h, g3.i, g3.h, g2.i, g2.h, g1.i, g1.h, g0.i, g0.h, Nat.reduceLT, w0, w1, w2, w3, w4, w5]
    refine rnumB u3 fun q5 g5 N5 => ?_
    try simp only [g5.i, g5.h, g4.i, g4.h, g3.i, g3.h, g2.i, g2.h, g1.i, g1.h, g0.i, g0.h, Nat.reduceLT, w0, w1, w2, w3, w4, w5]
    refine segB P4 N5.sp (by omega) fun q6 g6 P6 => ?_
    try simp only [g6.i, g6.h, g5.i, g5.h, g4.i, g4.h, g3.i, g3.h, g2.i, g2.h, g1.i, g1.h, g0.i, g0.h, Nat.reduceLT, w0, w1, w2, w3, w4, w5]
    refine rnumB u4 fun q7 g7 N7 => ?_
    try simp only [g7.i, g7.h, g6.i, g6.h, g5.i, g5.h, g4.i, g4.h, g3.i, g3.h, g2.i, g2.h, g1.i, g1.h, g0.i, g0.h, Nat.reduceLT, w0, w1, w2, w3, w4, w5]
    refine segB P6 N7.sp (by omega) fun q8 g8 P8 => ?_
    try simp only [g8.i, g8.h, g7.i, g7.h, g6.i, g6.h, g5.i, g5.h, g4.i, g4.h, g3.i, g3.h, g2.i, g2.h, g1.i, g1.h, g0.i, g0.h, Nat.reduceLT, w0, w1, w2, w3, w4, w5]
    refine rnumB u5 fun q9 g9 N9 => ?_
    try simp only [g9.i, g9.h, g8.i, g8.h, g7.i, g7.h, g6.i, g6.h, g5.i, g5.h, g4.i, g4.h, g3.i, g3.h, g2.i, g2.h, g1.i, g1.h, g0.i, g0.h, Nat.reduceLT, w0, w1, w2, w3, w4, w5]
    refine segB P8 N9.sp (by omega) fun q10 g10 P10 => ?_
    try simp only [g10.i, g10.h, g9.i, g9.h, g8.i, g8.h, g7.i, g7.h, g6.i, g6.h, g5.i, g5.h, g4.i, g4.h, g3.i, g3.h, g2.i, g2.h, g1.i, g1.h, g0.i, g0.h, Nat.reduceLT, w0, w1, w2, w3, w4, w5]
    refine rnumB u6 fun q11 g11 N11 => ?_
    try simp only [g11.i, g11.h, g10.i, g10.h, g9.i, g9.h, g8.i, g8.h, g7.i, g7.h, g6.i, g6.h, g5.i, g5.h, g4.i, g4.h, g3.i, g3.h, g2.i, g2.h, g1.i, g1.h, g0.i, g0.h, Nat.reduceLT, w0, w1, w2, w3, w4, w5]
    refine segB P10 N11.sp (by omega) fun q12 g12 P12 => ?_
    intro _
    have eL : q12.i 9 + q12.i 15 + q12.i 21 + q12.i 27 + q12.i 33 + q12.i 39 = q1.i 9 + q3.i 15 + q5.i 21 + q7.i 27 + q9.i 33 + q11.i 39 := by
      simp only [g12.i, g11.i, g10.i, g9.i, g8.i, g7.i, g6.i, g5.i, g4.i, g3.i, g2.i, g1.i, g0.i, Nat.reduceLT]
    have h0 := P12.l
    refine ⟨[], [2], rfl, rfl, bp_shape rfl rfl rfl P12.rx (by
      show 0 ≤ q12.i 9 + q12.i 15 + q12.i 21 + q12.i 27 + q12.i 33 + q12.i 39
      rw [eL]; omega) P12.rc, _, rfl, ?_⟩
    show OwB (hls [q12.h 41]) _ (.slice (slP (q12.i 41) 0) (q12.i 9 + q12.i 15 + q12.i 21 + q12.i 27 + q12.i 33 + q12.i 39).toNat (q12.i 42).toNat) _
    rw [hls_one, eL]
    have e : vecB [v1, v2, v3, v4, v5, v6] = [] ++ numB v1.toNat ++ numB v2.toNat ++ numB v3.toNat ++ numB v4.toNat ++ numB v5.toNat ++ numB v6.toNat := by
      show numB v1.toNat ++ (numB v2.toNat ++ (numB v3.toNat ++ (numB v4.toNat ++ (numB v5.toNat ++ (numB v6.toNat ++ []))))) = _
      simp only [List.append_assoc, List.append_nil, List.nil_append]
    rw [e]
    exact P12.own
/-! ### Piece -/
noncomputable def rpcS : Sx.Spec where
  fn := 36
  own := []
  rd := [1000053, 1000125]
  res := [.one .sl]
  pre := fun xs Hs Rs => ∃ row R1 R2 c, xs = [.agg row.toArray] ∧ Rs = [R1, R2] ∧ IsPc R1 R2 row c ∧ c.b.length ≤ 90000
  post := fun xs Hs Rs v Hs' F => ∃ row R1 R2 c, xs = [.agg row.toArray] ∧ Rs = [R1, R2] ∧ IsPc R1 R2 row c ∧ OwB F 5 v (pcB c)
def rpcNd : Nd := .ext (.alloc 136) (.and (.pre (.call 1 137 [.sv (.agg (ckCVs 0 hk2))] [] [.ro 134 [.var 53] false])) (.ext (.call 1 137 [.sv (.agg (ckCVs 0 hk2))] [] [.ro 134 [.var 53] false]) (.and (.pre (.call 2 141 [.sv (.one (.sl (.var 137) (.var 138) (.var 139) (.var 140)))] [] [.hp 137 [] [.var 137] []])) (.ext (.call 2 141 [.sv (.one (.sl (.var 137) (.var 138) (.var 139) (.var 140)))] [] [.hp 137 [] [.var 137] []]) (.and (.pre (.call 2 145 [.sv (.one (.sl (.var 128) (.var 129) (.var 130) (.var 131)))] [] [.ro 135 [.var 128] false])) (.ext (.call 2 145 [.sv (.one (.sl (.var 128) (.var 129) (.var 130) (.var 131)))] [] [.ro 135 [.var 128] false]) (.and (.pre (.app 149 5 1 1 (.sl (.var 141) (.var 142) (.var 143) (.var 144)) (.var 143) (.hp 141 [] [.var 141] []) (.seg 145 (.var 145) (.var 146) (.var 147)))) (.ext (.app 149 5 1 1 (.sl (.var 141) (.var 142) (.var 143) (.var 144)) (.var 143) (.hp 141 [] [.var 141] []) (.seg 145 (.var 145) (.var 146) (.var 147))) (.post [.ro 134 [.var 53] false, .ro 135 [.var 128] false, .dead, .hp 137 [] [.var 137] [], .hp 149 [141] [.var 149, .var 141] [], .hp 145 [] [.var 145] []] (.sv (.one (.sl (.var 149) (.lit 0) (.add (.var 143) (.var 147)) (.var 150)))))))))))))
noncomputable def rpΓ : List Sx.Spec := [rnumS, bytesS 58, rtextS, rnumsS]
theorem rpΓ_ok : ∀ t ∈ rpΓ, t.OK Try.prog := fun t ht => by
  simp only [rpΓ, List.mem_cons, List.mem_nil_iff, or_false] at ht
  rcases ht with rfl | rfl | rfl | rfl
  · exact rnumS_ok
  · exact rBytS_ok
  · exact rtextS_ok
  · exact rnumsS_ok
noncomputable def rpcW : Walk Try.prog rpΓ 36 where
  Λ := noLoops
  args := [.sv (.agg (ckCVs 0 pk2))]
  mem := [.ro 134 [.var 53] false, .ro 135 [.var 128] false]
  nv := 136
  nd := rpcNd
  ok := by kernel_rfl
theorem rpg1 : rpΓ[1]? = some (bytesS 58) := rfl
theorem rpg2 : rpΓ[2]? = some rtextS := rfl
theorem rpr2 : rtextS.res = [.one .sl] := rfl
section
variable {q : Env} {n : Nat} {A S : Hl} {sx sy sl sc : Int} {b2 : List Int} {m2 : Nat} {K : Env → Prop}
theorem rtextB (h2 : SP S sx sy sl sc b2 m2) (hm : m2 ≤ 90000)
    (k : ∀ q', Agree n q q' → BP (q'.h n) (q'.i n) (q'.i (n + 1)) (q'.i (n + 2)) (q'.i (n + 3)) (textBytes b2) (m2 + 10) → K q') :
    rtextS.pre [.slice (slP sx sy) sl.toNat sc.toNat] [] [S] ∧ ∀ q', Agree n q q' → (∃ F, rtextS.post [.slice (slP sx sy) sl.toNat sc.toNat] [] [S] (.slice (slP (q'.i n) (q'.i (n + 1))) (q'.i (n + 2)).toNat (q'.i (n + 3)).toNat) [] F ∧ (True → q'.h n = F) ∧ cpNorms n [.one .sl] q') → K q' := by
  refine ⟨⟨_, S, b2, rfl, rfl, h2.rd, Nat.le_trans h2.len hm⟩, fun q' g ⟨F, ⟨u, R, b, e1, e2, hR, hO⟩, hF, hn⟩ => k q' g ?_⟩
  simp only [List.cons.injEq, and_true] at e1 e2
  subst e1 e2
  obtain rfl := h2.rd.uniq hR
  refine bp_of hO hF hn ?_
  have := h2.len
  have := lenB (z := b2.length) (by omega)
  unfold textBytes
  rw [List.length_append]; omega
end
theorem rpcS_ok : rpcS.OK Try.prog := by
  refine Spec.of_fn (Γ := rpΓ) rpΓ_ok ?_
  rintro xs Hs Rs hl1 hl2 ⟨row, R1, R2, c, rfl, rfl, hx, hcl⟩
  have e0 : Hs = [] := List.length_eq_zero_iff.1 hl1
  subst e0
  obtain ⟨ρ, rfl, hn, hh⟩ := row_env [(134, R1), (135, R2)] hx.ok
  have hHd := hx.hd
  have hBd := hx.body
  rw [show ((ckCVs 0 pk2).map (CV.ev ρ)).take 125 = hrow ρ 0 by kernel_rfl] at hHd
  rw [show ((ckCVs 0 pk2).map (CV.ev ρ)).getD 125 noV = .slice (slP (ρ.i 128) (ρ.i 129)) (ρ.i 130).toNat (ρ.i 131).toNat by kernel_rfl] at hBd
  have w134 : ρ.h 134 = R1 := hh 134
  have w135 : ρ.h 135 = R2 := hh 135
  have n128 : 0 ≤ ρ.i 129 ∧ 0 ≤ ρ.i 130 ∧ 0 ≤ ρ.i 131 := by
    have := norms_at hk2 [.sl] 0 hn
    rw [show 0 + ckLen hk2 = 128 by kernel_rfl] at this
    exact ⟨this.1.2.1, this.1.2.2.1, this.1.2.2.2⟩
  refine ⟨rpcW, ρ, fun _ _ => True, fun _ _ => 0, by kernel_rfl, ⟨?_, ?_, ?_, ?_⟩, (fun _ h => nomatch h), ?_⟩
  · intro r hr ho; simp [rpcW] at hr; rcases hr with rfl | rfl <;> cases ho
  · intro r hr ho; simp [rpcW] at hr
    rcases hr with rfl | rfl
    · exact ⟨R1, by simp, by show (ρ.h 134).le R1; rw [w134]; exact Hl.le_refl _⟩
    · exact ⟨R2, by simp, by show (ρ.h 135).le R2; rw [w135]; exact Hl.le_refl _⟩
  · simp [rpcW, Res.own]
  · intro r hr; simp [rpcW] at hr; rcases hr with rfl | rfl <;> trivial
  · show Nd.holds _ _ _ rpcNd
    unfold rpcNd
    simp only [Nd.holds, X.pre, X.rel, X.n, Src.ok, Src.len, Src.vals, true_and, and_true, if_true, Nat.mul_one, Nat.add_zero, Nat.reduceAdd, List.length_cons, List.length_nil, bT_tt, bT_ff, bT_bvar, bT_not, bT_and, bT_or, bT_ite, bT_lt, bT_le, bT_eq, bT_beq, bT_seq, bT_hB, bT_his, bT_hby, bT_hism, bT_hks, iev_lit, iev_var, iev_add, iev_sub, iev_mul, iev_wrap, iev_ite, iev_hI, iev_hP, iev_hmlen, sev_ite, sev_slit, sev_sof, sev_svar, TV.ev, SV.ev, CV.ev, List.map_cons, List.map_nil, Res.hl, cpTV, Cp.sv, Ck.cv, cpSVs, Cp.len, Ck.len, newHs_zero, newHs_one, roots_ne, rpg1, rpg2, rpr2, apr5, rcc0]
    intro q0 g0 _
    simp only [ag_row g0, ckLen_hk, Nat.reduceAdd, Nat.reduceLeDiff, g0.h, g0.i, Nat.reduceLT, w134]
    refine ⟨⟨_, R1, c.h, rfl, rfl, hHd⟩, fun q1 g1 ⟨F, hp, hF, hnm⟩ => ?_⟩
    have P1 := bp_of (byt_res hHd hp) hF hnm (bytesOf_len hHd)
    refine rtextB P1.sp (by omega) fun q2 g2 P2 => ?_
    simp only [g2.i, g2.h, g1.i, g1.h, g0.i, g0.h, Nat.reduceLT, w135]
    refine rtextB (⟨hBd, n128.2.1, n128.1, hcl⟩ : SP R2 (ρ.i 128) (ρ.i 129) (ρ.i 130) (ρ.i 131) c.b 90000) (by omega) fun q3 g3 P3 => ?_
    simp only [g3.i, g3.h, g2.i, g2.h, g1.i, g1.h, g0.i, g0.h, Nat.reduceLT]
    refine segB P2 P3.sp (by omega) fun q4 g4 P4 => ?_
    intro _
    have eL : q4.i 143 + q4.i 147 = q2.i 143 + q3.i 147 := by simp only [g4.i, g3.i, Nat.reduceLT]
    have h0 := P4.l
    refine ⟨[], [4], rfl, rfl, bp_shape rfl rfl rfl P4.rx (by
      show 0 ≤ q4.i 143 + q4.i 147
      rw [eL]; omega) P4.rc, _, R1, R2, c, rfl, rfl, hx, ?_⟩
    show OwB (hls [q4.h 149]) _ (.slice (slP (q4.i 149) 0) (q4.i 143 + q4.i 147).toNat (q4.i 150).toNat) _
    rw [hls_one, eL]
    exact P4.own
end Go.Proofs.Ytkdllpialpfopaa
