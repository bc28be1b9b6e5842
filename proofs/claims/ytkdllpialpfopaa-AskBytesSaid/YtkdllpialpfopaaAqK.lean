/- Layer 22: the reference's Bytes as a contract: the same of a formed request. Condition: bytes below 256. -/
import Derived.Test.YtkdllpialpfopaaAqJ
set_option linter.unusedSimpArgs false
set_option linter.unusedVariables false
set_option linter.constructorNameAsVariable false
namespace Go.Proofs.Ytkdllpialpfopaa
open Go Go.Sx Go.Pk

noncomputable def rqBytS : Sx.Spec where
  fn := 11
  own := []
  rd := [1000055, 1000127, 1000135]
  res := [.one .sl]
  pre := fun xs Hs Rs => ∃ row R1 R2 R3 r, xs = [.agg row.toArray] ∧ Rs = [R1, R2, R3] ∧ IsRq R1 R2 R3 row r ∧ r.Form
  post := fun xs Hs Rs v Hs' F => ∃ row R1 R2 R3 r, xs = [.agg row.toArray] ∧ Rs = [R1, R2, R3] ∧ IsRq R1 R2 R3 row r ∧ OwB F 5 v (qB r)
noncomputable def rbΓ : List Sx.Spec := [rnumS, bytesS 58, rtextS, rnumsS, rpcS]
theorem rbΓ_ok : ∀ t ∈ rbΓ, t.OK Try.prog := fun t ht => by
  simp only [rbΓ, List.mem_cons, List.mem_nil_iff, or_false] at ht
  rcases ht with rfl | rfl | rfl | rfl | rfl
  · exact rnumS_ok
  · exact rBytS_ok
  · exact rtextS_ok
  · exact rnumsS_ok
  · exact rpcS_ok
def rqBytNd : Nd := .ext (.alloc 153) (.and (.and (.and (.pre (.call 0 154 [.sv (.one (.int .u64 (.var 0)))] [] [])) (.ext (.call 0 154 [.sv (.one (.int .u64 (.var 0)))] [] []) (.ext (.alloc 158) (.and (.pre (.app 159 5 1 1 (.sl (.var 154) (.var 155) (.var 156) (.var 157)) (.var 156) (.hp 154 [] [.var 154] []) (.cvs [.int .u8 (.wrap .u8 (.var 1))] 1))) (.ext (.app 159 5 1 1 (.sl (.var 154) (.var 155) (.var 156) (.var 157)) (.var 156) (.hp 154 [] [.var 154] []) (.cvs [.int .u8 (.wrap .u8 (.var 1))] 1)) (.inv 1 [⟨160, 0, .int .i64 (.var 159)⟩, ⟨161, 0, .int .i64 (.add (.var 156) (.lit 1))⟩, ⟨162, 0, .int .i64 (.var 160)⟩] [(163, some 159)])))))) (.ext (.alloc 154) (.and (.pre (.call 0 155 [.sv (.one (.int .u64 (.var 0)))] [] [])) (.ext (.call 0 155 [.sv (.one (.int .u64 (.var 0)))] [] []) (.and (.pre (.app 159 5 1 1 (.sl (.var 155) (.var 156) (.var 157) (.var 158)) (.var 157) (.hp 155 [] [.var 155] []) (.cvs [.int .u8 (.wrap .u8 (.var 1))] 1))) (.ext (.app 159 5 1 1 (.sl (.var 155) (.var 156) (.var 157) (.var 158)) (.var 157) (.hp 155 [] [.var 155] []) (.cvs [.int .u8 (.wrap .u8 (.var 1))] 1)) (.inv 1 [⟨160, 0, .int .i64 (.var 159)⟩, ⟨161, 0, .int .i64 (.add (.var 157) (.lit 1))⟩, ⟨162, 0, .int .i64 (.var 160)⟩] [(163, some 159)]))))))) (.havoc 0 1 154 (.and (.imp (.eq (.var 1) (.lit 1)) (.and (.pre (.call 4 164 [.sv (.agg (ckCVs 2 (hk2 ++ [Ck.sl])))] [] [.ro 150 [.var 55] false, .ro 151 [.var 130] false])) (.ext (.call 4 164 [.sv (.agg (ckCVs 2 (hk2 ++ [Ck.sl])))] [] [.ro 150 [.var 55] false, .ro 151 [.var 130] false]) (.and (.pre (.app 168 5 1 1 (.sl (.var 160) (.lit 0) (.var 161) (.var 162)) (.var 161) (.hp 163 [] [.var 160] []) (.seg 164 (.var 164) (.var 165) (.var 166)))) (.ext (.app 168 5 1 1 (.sl (.var 160) (.lit 0) (.var 161) (.var 162)) (.var 161) (.hp 163 [] [.var 160] []) (.seg 164 (.var 164) (.var 165) (.var 166))) (.post [.ro 150 [.var 55] false, .ro 151 [.var 130] false, .ro 152 [.var 141] false, .dead, .hp 168 [163] [.var 168, .var 160] [], .hp 164 [] [.var 164] []] (.sv (.one (.sl (.var 168) (.lit 0) (.add (.var 161) (.var 166)) (.var 169)))))))))) (.imp (.not (.eq (.var 1) (.lit 1))) (.and (.imp (.eq (.var 1) (.lit 3)) (.ext (.alloc 164) (.and (.pre (.app 165 5 1 1 (.sl (.var 160) (.lit 0) (.var 161) (.var 162)) (.var 161) (.hp 163 [] [.var 160] []) (.cvs [.int .u8 (.wrap .u8 (.var 146))] 1))) (.ext (.app 165 5 1 1 (.sl (.var 160) (.lit 0) (.var 161) (.var 162)) (.var 161) (.hp 163 [] [.var 160] []) (.cvs [.int .u8 (.wrap .u8 (.var 146))] 1)) (.and (.pre (.call 0 167 [.sv (.one (.int .u64 (.var 147)))] [] [])) (.ext (.call 0 167 [.sv (.one (.int .u64 (.var 147)))] [] []) (.and (.pre (.app 171 5 1 1 (.sl (.var 165) (.lit 0) (.add (.var 161) (.lit 1)) (.var 166)) (.add (.var 161) (.lit 1)) (.hp 165 [163] [.var 165, .var 160] []) (.seg 167 (.var 167) (.var 168) (.var 169)))) (.ext (.app 171 5 1 1 (.sl (.var 165) (.lit 0) (.add (.var 161) (.lit 1)) (.var 166)) (.add (.var 161) (.lit 1)) (.hp 165 [163] [.var 165, .var 160] []) (.seg 167 (.var 167) (.var 168) (.var 169))) (.post [.ro 150 [.var 55] false, .ro 151 [.var 130] false, .ro 152 [.var 141] false, .dead, .hp 171 [165, 163] [.var 171, .var 165, .var 160] [], .dead, .hp 167 [] [.var 167] []] (.sv (.one (.sl (.var 171) (.lit 0) (.add (.add (.var 161) (.lit 1)) (.var 169)) (.var 172))))))))))))) (.imp (.not (.eq (.var 1) (.lit 3))) (.and (.pre (.call 3 164 [.sv (.agg (ckCVs 134 (List.replicate 6 (Ck.int .u64))))] [] [])) (.ext (.call 3 164 [.sv (.agg (ckCVs 134 (List.replicate 6 (Ck.int .u64))))] [] []) (.and (.pre (.app 168 5 1 1 (.sl (.var 160) (.lit 0) (.var 161) (.var 162)) (.var 161) (.hp 163 [] [.var 160] []) (.seg 164 (.var 164) (.var 165) (.var 166)))) (.ext (.app 168 5 1 1 (.sl (.var 160) (.lit 0) (.var 161) (.var 162)) (.var 161) (.hp 163 [] [.var 160] []) (.seg 164 (.var 164) (.var 165) (.var 166))) (.and (.and (.imp (.bvar 140) (.inv 2 [⟨180, 0, .int .i64 (.lit 1)⟩] [])) (.imp (.not (.bvar 140)) (.inv 2 [⟨180, 0, .int .i64 (.lit 0)⟩] []))) (.havoc 0 2 170 (.and (.e (.le (.lit 0) (.var 143))) (.ext (.alloc 181) (.and (.pre (.app 182 5 1 1 (.sl (.var 168) (.lit 0) (.add (.var 161) (.var 166)) (.var 169)) (.add (.var 161) (.var 166)) (.hp 168 [163] [.var 168, .var 160] []) (.cvs [.int .u8 (.var 180), .int .u8 (.wrap .u8 (.var 143))] 2))) (.ext (.app 182 5 1 1 (.sl (.var 168) (.lit 0) (.add (.var 161) (.var 166)) (.var 169)) (.add (.var 161) (.var 166)) (.hp 168 [163] [.var 168, .var 160] []) (.cvs [.int .u8 (.var 180), .int .u8 (.wrap .u8 (.var 143))] 2)) (.and (.inv 0 [⟨200, 0, .int .i64 (.var 182)⟩, ⟨202, 0, .int .i64 (.add (.add (.var 161) (.var 166)) (.lit 2))⟩, ⟨203, 0, .int .i64 (.var 183)⟩, ⟨204, 0, .int .i64 (.lit 0)⟩] [(205, some 182)]) (.havoc 0 0 184 (.and (.imp (.lt (.var 204) (.var 143)) (.and (.e (.le (.lit 0) (.var 141))) (.and (.e (.le (.lit 0) (.var 142))) (.and (.e (.le (.lit 0) (.var 204))) (.and (.pre (.app 210 5 1 1 (.sl (.var 200) (.lit 0) (.var 202) (.var 203)) (.var 202) (.hp 205 [] [.var 200] []) (.seg 152 (.var 141) (.add (.var 142) (.mul (.var 204) (.lit 16))) (.lit 16)))) (.ext (.app 210 5 1 1 (.sl (.var 200) (.lit 0) (.var 202) (.var 203)) (.var 202) (.hp 205 [] [.var 200] []) (.seg 152 (.var 141) (.add (.var 142) (.mul (.var 204) (.lit 16))) (.lit 16))) (.back 0 0 [⟨200, 0, .int .i64 (.var 210)⟩, ⟨202, 0, .int .i64 (.add (.var 202) (.lit 16))⟩, ⟨203, 0, .int .i64 (.var 211)⟩, ⟨204, 0, .int .i64 (.wrap .i64 (.add (.var 204) (.lit 1)))⟩] [(205, some 210)]))))))) (.imp (.not (.lt (.var 204) (.var 143))) (.ext (.alloc 210) (.and (.pre (.app 211 5 1 1 (.sl (.var 200) (.lit 0) (.var 202) (.var 203)) (.var 202) (.hp 205 [] [.var 200] []) (.cvs [.int .u8 (.wrap .u8 (.var 145))] 1))) (.ext (.app 211 5 1 1 (.sl (.var 200) (.lit 0) (.var 202) (.var 203)) (.var 202) (.hp 205 [] [.var 200] []) (.cvs [.int .u8 (.wrap .u8 (.var 145))] 1)) (.post [.ro 150 [.var 55] false, .ro 151 [.var 130] false, .ro 152 [.var 141] false, .dead, .hp 211 [205] [.var 211, .var 200] [], .hp 164 [] [.var 164] [], .dead, .dead] (.sv (.one (.sl (.var 211) (.lit 0) (.add (.var 202) (.lit 1)) (.var 212))))))))))))))))))))))))))))
noncomputable def rqBytW : Walk Try.prog rbΓ 11 where
  Λ := fun p => if cutAt p [11, 1, 0] then some ⟨1, [(3, .sv (.one (.sl (.var 160) (.lit 0) (.var 161) (.var 162))))], [(4, .hp 163 [] [.var 160] [])], 164⟩
    else if cutAt p [11, 1, 1, 1, 1, 1, 1, 0] then some ⟨2, [(4, TI .u8 (.var 180))], [], 181⟩
    else if decide (p.length = 12) && !(p.head? == some 99) then some ⟨0, [(3, .sv (.one (.sl (.var 200) (.lit 0) (.var 202) (.var 203)))), (5, TI .i64 (.var 204))], [(4, .hp 205 [] [.var 200] [])], 210⟩ else none
  args := (cpSVs 0 [.agg qk2]).map .sv
  mem := rqMem
  nv := 153
  nd := rqBytNd
  ok := by kernel_rfl
theorem rbg0 : rbΓ[0]? = some rnumS := rfl
theorem rbg3 : rbΓ[3]? = some rnumsS := rfl
theorem rbg4 : rbΓ[4]? = some rpcS := rfl
theorem rbr3 : rnumsS.res = [.one .sl] := rfl
theorem rbr4 : rpcS.res = [.one .sl] := rfl
theorem one_num {z : Int} (h0 : 0 ≤ z) (h1 : z < 128) : numB (u64N z) = [z] ∧ IntKind.u8.wrap z = z := by
  have e : u64N z = z.toNat := by unfold u64N; rw [wu64 (by omega) (by omega)]
  rw [e]
  have e2 : ((z.toNat : Nat) : Int) = z := by omega
  refine ⟨?_, ?_⟩
  · rw [numB_low (by omega), e2]
  · rw [wu8]; omega
section
variable {q : Env} {n : Nat} {K : Env → Prop} {R1 R2 : Hl}
theorem rnumsB {vs : List Int} (h6 : vs.length = 6) (hu : u64s vs) (k : ∀ q', Agree n q q' → BP (q'.h n) (q'.i n) (q'.i (n + 1)) (q'.i (n + 2)) (q'.i (n + 3)) (vecB vs) 60 → K q') :
    rnumsS.pre [.agg (us vs).toArray] [] [] ∧ ∀ q', Agree n q q' → (∃ F, rnumsS.post [.agg (us vs).toArray] [] [] (.slice (slP (q'.i n) (q'.i (n + 1))) (q'.i (n + 2)).toNat (q'.i (n + 3)).toNat) [] F ∧ (True → q'.h n = F) ∧ cpNorms n [.one .sl] q') → K q' := by
  refine ⟨⟨vs, rfl, h6, hu⟩, fun q' g ⟨F, ⟨vs', e1, hO⟩, hF, hn⟩ => k q' g ?_⟩
  simp only [List.cons.injEq, Value.agg.injEq, and_true] at e1
  obtain rfl := us_inj (List.toArray_inj e1)
  exact bp_of hO hF hn (vec_len h6 hu)
theorem rpcB {row : List Value} {c : Pc} (hx : IsPc R1 R2 row c) (hc : c.b.length ≤ 4096) (k : ∀ q', Agree n q q' → BP (q'.h n) (q'.i n) (q'.i (n + 1)) (q'.i (n + 2)) (q'.i (n + 3)) (pcB c) 5048 → K q') :
    rpcS.pre [.agg row.toArray] [] [R1, R2] ∧ ∀ q', Agree n q q' → (∃ F, rpcS.post [.agg row.toArray] [] [R1, R2] (.slice (slP (q'.i n) (q'.i (n + 1))) (q'.i (n + 2)).toNat (q'.i (n + 3)).toNat) [] F ∧ (True → q'.h n = F) ∧ cpNorms n [.one .sl] q') → K q' := by
  refine ⟨⟨row, R1, R2, c, rfl, rfl, hx, by omega⟩, fun q' g ⟨F, ⟨row', R1', R2', c', e1, e2, hx', hO⟩, hF, hn⟩ => k q' g ?_⟩
  simp only [List.cons.injEq, Value.agg.injEq, and_true] at e1 e2
  obtain rfl := List.toArray_inj e1
  obtain ⟨rfl, rfl⟩ := e2
  obtain rfl := hx.uniq hx'
  exact bp_of hO hF hn (pcB_len hx hc)
end
theorem BP.to {A A' : Hl} {x x' y y' l l' c c' : Int} {bs bs' : List Int} {m m' : Nat} (h : BP A x y l c bs m) (e1 : A' = A) (e2 : x' = x) (e3 : y' = y) (e4 : l' = l) (e5 : c' = c) (e6 : bs' = bs) (e7 : m ≤ m') : BP A' x' y' l' c' bs' m' := by
  subst e1 e2 e3 e4 e5 e6
  exact ⟨h.own, h.l, h.rx, h.ry, h.rc, Nat.le_trans h.len e7⟩
set_option maxHeartbeats 1000000 in
theorem rqBytS_ok : rqBytS.OK Try.prog := by
  refine Spec.of_fn (Γ := rbΓ) rbΓ_ok ?_
  rintro xs Hs Rs hl1 hl2 ⟨row, R1, R2, R3, r, rfl, rfl, hx, hf⟩
  have e0 : Hs = [] := List.length_eq_zero_iff.1 hl1
  subst e0
  obtain ⟨ρ, rfl, hn, hh⟩ := row_env [(150, R1), (151, R2), (152, R3)] hx.ok
  have hx : IsRq R1 R2 R3 (qrow ρ) r := hx
  have w150 : ρ.h 150 = R1 := hh 150
  have w151 : ρ.h 151 = R2 := hh 151
  have w152 : ρ.h 152 = R3 := hh 152
  refine ⟨rqBytW, ρ, fun j q => if j = 1 then BP (q.h 163) (q.i 160) 0 (q.i 161) (q.i 162) (numB (ρ.i 0).toNat ++ [ρ.i 1]) 11 else if j = 2 then q.i 180 = (if ρ.b 140 = true then 1 else 0) else ∃ i : Nat, q.i 204 = i ∧ i ≤ r.w.length ∧ BP (q.h 205) (q.i 200) 0 (q.i 202) (q.i 203) (numB (ρ.i 0).toNat ++ [ρ.i 1] ++ vecB [ρ.i 134, ρ.i 135, ρ.i 136, ρ.i 137, ρ.i 138, ρ.i 139] ++ [if ρ.b 140 = true then 1 else 0, (r.w.length : Int)] ++ (r.w.take i).flatten) 500, fun _ q => (r.w.length - q.i 204).toNat, by kernel_rfl, ⟨?_, ?_, ?_, ?_⟩, (fun _ h => nomatch h), ?_⟩
  · intro r hr ho; simp [rqBytW, rqMem] at hr; rcases hr with rfl | rfl | rfl <;> cases ho
  · intro r hr ho; simp [rqBytW, rqMem] at hr
    rcases hr with rfl | rfl | rfl
    · exact ⟨R1, by simp, by show (ρ.h 150).le R1; rw [w150]; exact Hl.le_refl _⟩
    · exact ⟨R2, by simp, by show (ρ.h 151).le R2; rw [w151]; exact Hl.le_refl _⟩
    · exact ⟨R3, by simp, by show (ρ.h 152).le R3; rw [w152]; exact Hl.le_refl _⟩
  · simp [rqBytW, rqMem, Res.own]
  · intro r hr; simp [rqBytW, rqMem] at hr; rcases hr with rfl | rfl | rfl <;> trivial
  · show Nd.holds _ _ _ rqBytNd
    obtain ⟨n1, n2, n3⟩ := qnorms hn
    obtain ⟨u0, u147, uv⟩ := rq_rng hx
    have hW := rq_w hx
    have hP := rq_pc hx
    have lw : (ρ.i 143).toNat = r.w.length := rd_len hW
    have EF := rq_form hx
    have EB := rq_B hx
    have hfacts : (ρ.i 1 = 1 ∨ ρ.i 1 = 2 ∨ ρ.i 1 = 3) ∧ (ρ.i 1 = 2 → r.w.length ≤ 8 ∧ 1 ≤ ρ.i 145 ∧ ρ.i 145 ≤ 8) ∧ (ρ.i 1 = 3 → 1 ≤ ρ.i 146 ∧ ρ.i 146 ≤ 6) := by
      rcases EF.1 hf with h | h | h
      · have := h.1; exact ⟨by omega, by omega, by omega⟩
      · have h1 := h.1
        have h2 := h.2.2.2.2.1
        have h3 := h.2.2.2.2.2.2.2
        exact ⟨by omega, by omega, by omega⟩
      · have h1 := h.1
        have h2 := h.2.2.2
        exact ⟨by omega, by omega, by omega⟩
    clear EF
    obtain ⟨hk, hw8, hw3⟩ := hfacts
    obtain ⟨k1, k2⟩ := one_num (z := ρ.i 1) (by omega) (by omega)
    rw [k1] at EB
    unfold rqBytNd
    simp only [Nd.holds, X.pre, X.rel, X.n, Src.ok, Src.len, Src.vals, true_and, and_true, if_true, Nat.mul_one, Nat.add_zero, Nat.reduceAdd, List.length_cons, List.length_nil, bT_tt, bT_ff, bT_bvar, bT_not, bT_and, bT_or, bT_ite, bT_lt, bT_le, bT_eq, bT_beq, bT_seq, bT_hB, bT_his, bT_hby, bT_hism, bT_hks, iev_lit, iev_var, iev_add, iev_sub, iev_mul, iev_wrap, iev_ite, iev_hI, iev_hP, iev_hmlen, sev_ite, sev_slit, sev_sof, sev_svar, TV.ev, SV.ev, CV.ev, List.map_cons, List.map_nil, Res.hl, cpTV, Cp.sv, Ck.cv, cpSVs, Cp.len, Ck.len, newHs_zero, newHs_one, roots_ne, rbg0, rbg3, rbg4, rcr0, rbr3, rbr4, rcc0]
    intro q0 g0 _
    have G0 : Agree 153 ρ q0 := g0
    have out : ∀ {q : Env} {x l c : Int} {A : Hl} {m : Nat} {X L C : E} {mem : Mem} {p : Nat}, BP A x 0 l c (qB r) m → iev q X = x → iev q L = l → iev q C = c → resAt q mem p = A → okIdx mem [] [p] = true → postOf rqBytS [.agg ((ckCVs 0 qk2).map (CV.ev ρ)).toArray] [] [R1, R2, R3] q mem (.sv (.one (.sl X (.lit 0) L C))) := by
      intro q x l c A m X L C mem p hB hX hL hC hA hok _
      refine ⟨[], [p], rfl, hok, bp_shape hX hL hC hB.rx (by rw [hB.l]; omega) hB.rc, _, R1, R2, R3, r, rfl, rfl, hx, ?_⟩
      show OwB (hls [resAt q mem p]) _ (.slice (slP (iev q X) 0) (iev q L).toNat (iev q C).toNat) _
      rw [hls_one, hA, hX, hL, hC]; exact hB.own
    refine ⟨⟨?_, ?_⟩, fun q1 g1 hi => ?_⟩
    · simp only [g0.i, Nat.reduceLT]
      refine rnumB u0 fun q1 g1 P1 q2 g2 _ => ?_
      simp only [g2.i, g2.h, g1.i, g1.h, g0.i, Nat.reduceLT]
      refine cvsB (b2 := [ρ.i 1]) P1 (by rw [k2]; rfl) rfl (ml := 1) rfl (by simp) fun q3 g3 P3 => ?_
      show BP (q3.h 159) (q3.i 159) 0 (q3.i 156 + 1) (q3.i 160) _ 11
      exact P3.to rfl rfl rfl (by simp only [g3.i, g2.i, Nat.reduceLT]) rfl rfl (by simp)
    · intro q1 g1 _
      simp only [g1.i, g0.i, Nat.reduceLT]
      refine rnumB u0 fun q2 g2 P2 => ?_
      simp only [g2.i, g2.h, g1.i, g1.h, g0.i, Nat.reduceLT]
      refine cvsB (b2 := [ρ.i 1]) P2 (by rw [k2]; rfl) rfl (ml := 1) rfl (by simp) fun q3 g3 P3 => ?_
      show BP (q3.h 159) (q3.i 159) 0 (q3.i 157 + 1) (q3.i 160) _ 11
      exact P3.to rfl rfl rfl (by simp only [g3.i, Nat.reduceLT]) rfl rfl (by simp)
    have G1 : Agree 153 ρ q1 := G0.trans (g1.mono (by omega))
    have P1 : BP (q1.h 163) (q1.i 160) 0 (q1.i 161) (q1.i 162) (numB (ρ.i 0).toNat ++ [ρ.i 1]) 11 := hi
    simp only [G1.i, G1.h, w150, w151, w152, Nat.reduceLT]
    rw [show (ckCVs 2 (hk2 ++ [Ck.sl])).map (CV.ev q1) = (ckCVs 2 (hk2 ++ [Ck.sl])).map (CV.ev ρ) from ag_row G1 (by rw [ckLen_pk]; omega)]
    refine ⟨fun h1 => ?_, fun h1 => ⟨fun h3 q2 g2 _ => ?_, fun h3 => ?_⟩⟩
    · refine rpcB hP (Nat.le_trans (form_size hx hf h1) (by omega)) fun q2 g2 P2 => ?_
      simp only [g2.i, g2.h, Nat.reduceLT]
      refine segB P1 P2.sp (by omega) fun q3 g3 P3 => ?_
      refine out (p := 4) (P3.to rfl rfl rfl rfl rfl ?_ (Nat.le_refl _)) rfl ?_ rfl rfl rfl
      · rw [EB, if_pos h1]
      · show q3.i 161 + q3.i 166 = _
        simp only [g3.i, g2.i, Nat.reduceLT]
    · have G2 : Agree 153 ρ q2 := G1.trans (g2.mono (by omega))
      obtain ⟨m1, m2⟩ := one_num (z := ρ.i 146) (by have := hw3 h3; omega) (by have := hw3 h3; omega)
      simp only [G2.i, g2.i, g2.h, Nat.reduceLT]
      refine cvsB (vs := [.int .u8 (IntKind.u8.wrap (ρ.i 146))]) (b2 := [ρ.i 146]) P1 (by rw [m2]; rfl) rfl (ml := 1) rfl (by simp) fun q3 g3 P3 => ?_
      have G3 : Agree 153 ρ q3 := G2.trans (g3.mono (by omega))
      simp only [G3.i, g3.i, g3.h, g2.i, g2.h, Nat.reduceLT]
      refine rnumB u147 fun q4 g4 P4 => ?_
      simp only [g4.i, g4.h, g3.i, g3.h, g2.i, g2.h, Nat.reduceLT]
      refine segB P3 P4.sp (by simp) fun q5 g5 P5 => ?_
      refine out (p := 4) (P5.to rfl rfl rfl rfl rfl ?_ (Nat.le_refl _)) rfl ?_ rfl rfl rfl
      · rw [EB, if_neg h1, if_neg (by omega), if_pos h3, m1]
        simp only [List.append_assoc]
      · show q5.i 161 + 1 + q5.i 169 = _
        simp only [g5.i, g4.i, g3.i, g2.i, Nat.reduceLT]
    · have h2 : ρ.i 1 = 2 := by omega
      obtain ⟨hw8, h145⟩ := hw8 h2
      obtain ⟨m1, m2⟩ := one_num (z := ρ.i 145) (by omega) (by omega)
      have ew8 : IntKind.u8.wrap (ρ.i 143) = (r.w.length : Int) := by
        have := (one_num (z := ρ.i 143) (by omega) (by omega)).2
        rw [this]; omega
      have enw : numB r.w.length = [(r.w.length : Int)] := numB_low (by omega)
      rw [EB, if_neg h1, if_pos h2, enw, m1] at out
      rw [show (ckCVs 134 (List.replicate 6 (Ck.int .u64))).map (CV.ev q1) = us [ρ.i 134, ρ.i 135, ρ.i 136, ρ.i 137, ρ.i 138, ρ.i 139] from (ag_row G1 (Nat.le_of_ble_eq_true (by kernel_rfl))).trans rfl]
      refine rnumsB rfl uv fun q2 g2 P2 => ?_
      have G2 : Agree 153 ρ q2 := G1.trans (g2.mono (by omega))
      simp only [g2.i, g2.h, Nat.reduceLT]
      refine segB P1 P2.sp (by omega) fun q3 g3 P3 => ?_
      have G3 : Agree 153 ρ q3 := G2.trans (g3.mono (by omega))
      simp only [G3.b, Nat.reduceLT]
      refine ⟨⟨fun hb => ?_, fun hb => ?_⟩, fun q4 g4 hi4 => ?_⟩
      · show (1 : Int) = _
        rw [if_pos hb]
      · show (0 : Int) = _
        rw [if_neg hb]
      have hi4 : q4.i 180 = (if ρ.b 140 = true then 1 else 0) := hi4
      have G4 : Agree 153 ρ q4 := G3.trans (g4.mono (by omega))
      refine ⟨by rw [G4.i 143 (by omega)]; omega, fun q5 g5 _ => ?_⟩
      have G5 : Agree 153 ρ q5 := G4.trans (g5.mono (by omega))
      have P3 := P3.to (l' := q4.i 161 + q4.i 166) (A' := q4.h 168) (x' := q4.i 168) (c' := q4.i 169) (by rw [g4.h 168 (by omega)]) (by rw [g4.i 168 (by omega)]) rfl (by simp only [g4.i, g3.i, g2.i, Nat.reduceLT]) (by rw [g4.i 169 (by omega)]) rfl (Nat.le_refl _)
      simp only [G5.i, g5.i, g5.h, Nat.reduceLT]
      refine cvsB (vs := [.int .u8 (q4.i 180), .int .u8 (IntKind.u8.wrap (ρ.i 143))]) (b2 := [if ρ.b 140 = true then 1 else 0, (r.w.length : Int)]) P3 (by rw [ew8, hi4]; rfl) rfl (ml := 2) rfl (by simp) fun q6 g6 P6 => ?_
      have G6 : Agree 153 ρ q6 := G5.trans (g6.mono (by omega))
      refine ⟨⟨0, rfl, Nat.zero_le _, ?_⟩, fun q7 g7 ⟨i, ei, hi, hO⟩ => ?_⟩
      · show BP (q6.h 182) (q6.i 182) 0 (q6.i 161 + q6.i 166 + 2) (q6.i 183) _ 500
        rw [List.take_zero, List.flatten_nil, List.append_nil]
        exact P6.to rfl rfl rfl (by simp only [g6.i, g5.i, Nat.reduceLT]) rfl rfl (by simp)
      have G7 : Agree 153 ρ q7 := G6.trans (g7.mono (by omega))
      have ht16 : ∀ t ∈ r.w, t.length = 16 := fun t ht => (hx.toks.2 t ht).1
      have lF : ∀ i, i ≤ r.w.length → ((r.w.take i).flatten).length ≤ 128 := fun i hi => by
        rw [flat16 (fun t ht => ht16 t (List.mem_of_mem_take ht)), List.length_take]; omega
      simp only [G7.i, G7.h, w152, Nat.reduceLT]
      rw [ei]
      refine ⟨fun hlt => ?_, fun hge q8 g8 _ => ?_⟩
      · have hiT : i < r.w.length := by omega
        obtain ⟨x, y, c, eS, hy, hrows⟩ := id hW
        rcases hrows with hnn | ⟨hx0, hc⟩
        · rw [List.map_eq_nil_iff] at hnn
          rw [hnn] at hiT; cases hiT
        simp only [Value.slice.injEq] at eS
        obtain ⟨hx141, hy142⟩ := slP_eq hx0 hy n3.1 eS.1
        have ht := List.getElem?_eq_getElem hiT
        have m16 := hx.toks.2 _ (List.mem_of_getElem? ht)
        have cells := (tok_cellsAt hy hc ht m16.1)
        have hS : SP R3 (ρ.i 141) (ρ.i 142 + (i : Int) * 16) 16 16 r.w[i] 16 := by
          refine ⟨⟨ρ.i 141, ρ.i 142 + (i : Int) * 16, 16, by rw [m16.1]; rfl, by omega, Or.inr ⟨by omega, fun j z hz => ?_⟩⟩, by omega, by omega, by omega⟩
          have h1 := (hc i (bys r.w[i]) (by rw [List.getElem?_map, ht]; rfl)).2 j (.int .u8 z) (by unfold bys; rw [List.getElem?_map, hz]; rfl)
          have hlen : tkd.length = 16 := rfl
          rw [hlen] at h1
          rw [hx141, hy142, show (y + (i : Int) * 16).toNat = y.toNat + i * 16 by omega]
          exact h1
        refine ⟨by omega, by omega, by omega, ?_⟩
        refine segB hO hS (by omega) fun q8 g8 P8 => ?_
        have ew : IntKind.i64.wrap (q8.i 204 + 1) = ((i + 1 : Nat) : Int) := by rw [g8.i 204 (by omega), ei, IntWalk.i64_in _ (by omega)]; omega
        refine ⟨⟨i + 1, ew, by omega, ?_⟩, ?_⟩
        · show BP (q8.h 210) (q8.i 210) 0 (q8.i 202 + 16) (q8.i 211) _ 500
          have e : (r.w.take (i + 1)).flatten = (r.w.take i).flatten ++ r.w[i] := by
            rw [List.take_add_one, ht, Option.toList_some, List.flatten_append, List.flatten_cons, List.flatten_nil, List.append_nil]
          have l1 := lF (i + 1) (by omega)
          have l2 := P6.len
          have P9 := P8.to (l' := q8.i 202 + 16) rfl rfl rfl (by rw [g8.i 202 (by omega)]) rfl rfl (Nat.le_refl _)
          rw [e]
          rw [e] at l1
          refine ⟨by rw [← List.append_assoc]; exact P9.own, by rw [← List.append_assoc]; exact P9.l, P9.rx, P9.ry, P9.rc, ?_⟩
          simp only [List.length_append] at l1 l2 ⊢
          simp at l2
          simp only [List.length_cons, List.length_nil]
          omega
        · show ((r.w.length : Int) - IntKind.i64.wrap (q8.i 204 + 1)).toNat < _
          rw [ew]; omega
      · have hi' : i = r.w.length := by omega
        have G8 : Agree 153 ρ q8 := G7.trans (g8.mono (by omega))
        rw [hi', List.take_length] at hO
        simp only [G8.i, g8.i, g8.h, Nat.reduceLT]
        refine cvsB (vs := [.int .u8 (IntKind.u8.wrap (ρ.i 145))]) (b2 := [ρ.i 145]) hO (by rw [m2]; rfl) rfl (ml := 1) rfl (by simp) fun q9 g9 P9 => ?_
        refine out (p := 4) (P9.to rfl rfl rfl rfl rfl ?_ (Nat.le_refl _)) rfl ?_ rfl rfl rfl
        · simp only [List.append_assoc]; rfl
        · show q9.i 202 + 1 = _
          simp only [g9.i, g8.i, Nat.reduceLT]
end Go.Proofs.Ytkdllpialpfopaa
