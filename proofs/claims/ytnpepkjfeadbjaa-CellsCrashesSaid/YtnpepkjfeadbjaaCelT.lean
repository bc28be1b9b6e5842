/- Layer 8: law08.state, Over, the reference's Same, as contracts. No condition. -/
import Derived.Test.YtnpepkjfeadbjaaCelS
set_option linter.unusedSimpArgs false
set_option linter.unusedVariables false
set_option linter.constructorNameAsVariable false
namespace Go.Proofs.Ytnpepkjfeadbjaa
open Go Go.Sx

/-! ### Over -/
def overS : Sx.Spec where
  fn := 22
  own := []
  rd := [0]
  res := [.one .bool]
  pre := fun xs Hs Rs => ∃ p R dp sl L, xs = [p] ∧ Rs = [R] ∧ LogRd R p dp sl L
  post := fun xs Hs Rs v Hs' F => ∃ p R dp sl L, xs = [p] ∧ Rs = [R] ∧ LogRd R p dp sl L ∧ v = .bool L.over
def overNd : Nd := .and (.e (.le (.lit 0) (.var 0))) (.and (.e (.his 2 (.var 0) (.lit 22) 0 .bool)) (.post [.ro 1 [.hP 2 (.var 0) (.lit 21) 0 0] false, .ro 2 [.var 0] false] (.sv (.one (.bool (.hB 2 (.var 0) (.lit 22) 0))))))
def overW : Walk Try.prog [] overS.fn where
  Λ := noLoops
  args := [TP (.var 0) (.lit 0)]
  mem := rdMem
  nv := 3
  nd := overNd
  ok := by kernel_rfl
theorem LogIn.at22 {R : Hl} {a : Nat} {dp sl : Value} {L : LM} (h : LogIn R a dp sl L) : R.cell a 22 = some (.bool L.over) := by
  rw [h.cell]
  unfold lCells
  rw [List.getElem?_append_right (by simp), List.getElem?_append_right (by rw [bys_length, h.1.note]; simp)]
  rw [bys_length, h.1.note]; rfl
theorem overS_ok : overS.OK Try.prog := by
  refine Spec.of_fn (Γ := []) (fun _ h => by cases h) ?_
  rintro xs Hs Rs hl1 hl2 ⟨p, R, dp, sl, L, rfl, rfl, ⟨a, rfl, hL⟩⟩
  have e0 : Hs = [] := List.length_eq_zero_iff.1 hl1
  subst e0
  refine ⟨overW, rdLog a R R, fun _ _ => True, fun _ _ => 0, ?_, rdEntry a R R _ (by simp) (by simp), (fun _ h => nomatch h), ?_⟩
  · show [Value.pointer (slP (a : Int) 0)] = _; rw [dArg]
  · show Nd.holds _ _ _ overNd
    unfold overNd
    simp only [Nd.holds, X.pre, X.rel, X.n, Src.ok, Src.len, Src.vals, true_and, and_true, if_true, Nat.mul_one, Nat.add_zero, Nat.reduceAdd, List.length_cons, List.length_nil, bT_tt, bT_ff, bT_bvar, bT_not, bT_and, bT_or, bT_ite, bT_lt, bT_le, bT_eq, bT_beq, bT_seq, bT_hB, bT_his, bT_hby, bT_hism, bT_hks, iev_lit, iev_var, iev_add, iev_sub, iev_mul, iev_wrap, iev_ite, iev_hI, iev_hP, iev_hmlen, sev_ite, sev_slit, sev_sof, sev_svar, TV.ev, SV.ev, CV.ev, List.map_cons, List.map_nil, Res.hl]
    have v0 : (rdLog a R R).i 0 = a := rfl
    have w2 : (rdLog a R R).h 2 = R := rfl
    have c22 := hL.at22
    rw [v0, w2, Int.toNat_natCast, show Int.toNat 22 = 22 from rfl, c22]
    refine ⟨by omega, rfl, fun _ => ⟨[], [], rfl, rfl, ⟨⟨fun _ => 0, fun _ => L.over, fun _ => .empty, fun _ => .tuple #[], fun _ => Hl.none⟩, ?_, trivial, trivial⟩, _, R, dp, sl, L, rfl, rfl, ⟨a, rfl, hL⟩, ?_⟩⟩
    all_goals
      show Value.bool (valB (R.cell ((a : Int)).toNat 22)) = Value.bool L.over
      rw [Int.toNat_natCast, c22]; rfl
theorem over_pre {p dp : Value} {H : Hl} {L : LM} {bs : List Int} (h : LogAt H p dp L bs) : overS.pre [p] [] [H] := by
  obtain ⟨sl, h1, h2⟩ := h.parts
  exact ⟨p, H, dp, sl, L, rfl, rfl, h1⟩
theorem over_post {p dp v : Value} {H F : Hl} {K : List Hl} {L : LM} {bs : List Int} (h : LogAt H p dp L bs) (hp : overS.post [p] [] [H] v K F) : v = .bool L.over := by
  obtain ⟨sl, h1, h2⟩ := h.parts
  obtain ⟨p', R1, dp', sl', L', hx, hR, hLx, hv⟩ := hp
  have hx : p = p' := by simpa using hx
  subst hx
  have hR : H = R1 := by simpa using hR
  subst hR
  obtain ⟨e1, e2, e3⟩ := hLx.uniq h1
  subst e1 e2 e3
  exact hv

/-! ### state -/
def stateS : Sx.Spec where
  fn := 20
  own := []
  rd := [0, 1021]
  res := [.agg stk]
  pre := fun xs Hs Rs => ∃ p R R2 dp L bs, xs = [p] ∧ Rs = [R, R2] ∧ LogAt R p dp L bs ∧ bs.length ≤ 1048576
  post := fun xs Hs Rs v Hs' F => ∃ p R R2 dp L bs sl, xs = [p] ∧ Rs = [R, R2] ∧ LogAt R p dp L bs ∧ v = stV L.serial L.note sl ∧ OwB F 5 sl bs
def stateNd : Nd := .ext (.alloc 3) (.and (.pre (.call 1 4 [.sv (.one (.hptr (.var 0) (.lit 0)))] [] [.ro 2 [.var 0] false])) (.ext (.call 1 4 [.sv (.one (.hptr (.var 0) (.lit 0)))] [] [.ro 2 [.var 0] false]) (.and (.pre (.call 2 5 [.sv (.one (.hptr (.var 0) (.lit 0)))] [] [.ro 2 [.var 0] false])) (.ext (.call 2 5 [.sv (.one (.hptr (.var 0) (.lit 0)))] [] [.ro 2 [.var 0] false]) (.and (.pre (.call 0 21 [.sv (.one (.hptr (.var 0) (.lit 0)))] [] [.ro 2 [.var 0] false, .ro 2 [.var 0] false])) (.ext (.call 0 21 [.sv (.one (.hptr (.var 0) (.lit 0)))] [] [.ro 2 [.var 0] false, .ro 2 [.var 0] false]) (.post [.ro 1 [.hP 2 (.var 0) (.lit 21) 0 0] false, .ro 2 [.var 0] false, .dead, .hp 21 [] [.var 21] []] (.sv (.agg (ckCVs 4 ([Ck.int .u64] ++ List.replicate 16 (Ck.int .u8) ++ [Ck.sl])))))))))))
def stateΓ : List Sx.Spec := [bytesS, serialS, lnoteS]
theorem stateΓ_ok : ∀ t ∈ stateΓ, t.OK Try.prog := fun t ht => by
  simp only [stateΓ, List.mem_cons, List.mem_nil_iff, or_false] at ht
  rcases ht with rfl | rfl | rfl
  · exact bytesS_ok
  · exact serialS_ok
  · exact lnoteS_ok
def stateW : Walk Try.prog stateΓ stateS.fn where
  Λ := noLoops
  args := [TP (.var 0) (.lit 0)]
  mem := rdMem
  nv := 3
  nd := stateNd
  ok := by kernel_rfl
theorem stg0 : stateΓ[0]? = some bytesS := rfl
theorem stg1 : stateΓ[1]? = some serialS := rfl
theorem stg2 : stateΓ[2]? = some lnoteS := rfl
theorem stateS_ok : stateS.OK Try.prog := by
  refine Spec.of_fn (Γ := stateΓ) stateΓ_ok ?_
  rintro xs Hs Rs hl1 hl2 ⟨p, R, R2, dp, L, bs, rfl, rfl, hAt, hbs⟩
  have e0 : Hs = [] := List.length_eq_zero_iff.1 hl1
  subst e0
  have hAt' := hAt
  obtain ⟨a, sl0, HB, rfl, hok, _⟩ := hAt'
  refine ⟨stateW, rdLog a R R, fun _ _ => True, fun _ _ => 0, ?_, rdEntry a R R _ (by simp) (by simp), (fun _ h => nomatch h), ?_⟩
  · show [Value.pointer (slP (a : Int) 0)] = _; rw [dArg]
  · show Nd.holds _ _ _ stateNd
    generalize hρ : rdLog a R R = ρ
    have v0 : ρ.i 0 = a := by rw [← hρ]; rfl
    have w2 : ρ.h 2 = R := by rw [← hρ]; rfl
    have ep : Value.pointer (slP (a : Int) 0) = .pointer (some ⟨a, 0, none⟩) := dArg a
    unfold stateNd
    simp only [Nd.holds, X.pre, X.rel, X.n, Src.ok, Src.len, Src.vals, true_and, and_true, if_true, Nat.mul_one, Nat.add_zero, Nat.reduceAdd, List.length_cons, List.length_nil, bT_tt, bT_ff, bT_bvar, bT_not, bT_and, bT_or, bT_ite, bT_lt, bT_le, bT_eq, bT_beq, bT_seq, bT_hB, bT_his, bT_hby, bT_hism, bT_hks, iev_lit, iev_var, iev_add, iev_sub, iev_mul, iev_wrap, iev_ite, iev_hI, iev_hP, iev_hmlen, sev_ite, sev_slit, sev_sof, sev_svar, TV.ev, SV.ev, CV.ev, List.map_cons, List.map_nil, Res.hl, cpTV, Cp.sv, Ck.cv, cpSVs, Cp.len, Ck.len, newHs_zero, newHs_one, roots_ne, stg0, stg1, stg2, ar1, gr4, gr5, ac1]
    intro q1 g1 _
    rw [g1.i 0 (by omega), v0, g1.h 2 (by omega), w2, ep]
    refine ⟨serial_pre hAt, fun q2 g2 ⟨F2, hp2, _, _⟩ => ?_⟩
    have h2 := serial_post hAt hp2
    have h2 : q2.i 4 = L.serial := by simpa using h2
    have G2 : Agree 3 ρ q2 := g1.trans (g2.mono (by omega))
    rw [G2.i 0 (by omega), v0, G2.h 2 (by omega), w2, ep]
    refine ⟨lnote_pre hAt, fun q3 g3 ⟨F3, hp3, _, _⟩ => ?_⟩
    have h3 := lnote_post hAt hp3
    have h3 : List.map (CV.ev q3) (ckCVs 5 (u8s 16)) = bys L.note := by simpa using h3
    have G3 : Agree 3 ρ q3 := G2.trans (g3.mono (by omega))
    rw [G3.i 0 (by omega), v0, G3.h 2 (by omega), w2, ep]
    refine ⟨bytes_pre hAt hbs, fun q4 g4 ⟨F4, hp4, hF4, hn4⟩ => fun _ => ?_⟩
    have hO := bytes_post hAt hp4
    have hF4 := hF4 trivial
    obtain ⟨⟨n21, n22, n23, n24⟩, _⟩ := hn4
    have e5 : List.map (CV.ev q4) (ckCVs 5 (u8s 16)) = bys L.note := by rw [CV.agreeL (g4.mono (by decide)) _ (ckCVs_upto (u8s 16) 5)]; exact h3
    have e4 : q4.i 4 = L.serial := by rw [g4.i 4 (by omega), g3.i 4 (by omega), h2]
    have ev : (TV.sv (SV.agg (ckCVs 4 ([Ck.int IntKind.u64] ++ List.replicate 16 (Ck.int IntKind.u8) ++ [Ck.sl])))).ev q4 = stV L.serial L.note (.slice (slP (q4.i 21) (q4.i 22)) (q4.i 23).toNat (q4.i 24).toNat) := by
      show Value.agg ([Value.int .u64 (q4.i 4)] ++ (List.map (CV.ev q4) (ckCVs 5 (u8s 16))) ++ [Value.slice (slP (q4.i 21) (q4.i 22)) (q4.i 23).toNat (q4.i 24).toNat]).toArray = _
      rw [e5, e4]; rfl
    refine ⟨[], [3], rfl, rfl, ⟨⟨fun k => q4.i (4 + k), q4.b, q4.s, q4.v, q4.h⟩, rfl, ?_, trivial⟩, _, R, R2, dp, L, bs, _, rfl, rfl, hAt, ev, ?_⟩
    · exact ⟨trivial, trivial, trivial, trivial, trivial, trivial, trivial, trivial, trivial, trivial, trivial, trivial, trivial, trivial, trivial, trivial, trivial, ⟨n21, n22, n23, n24⟩, trivial⟩
    · show OwB (hls [q4.h 21]) _ _ _
      rw [hls_one, hF4]; exact hO

/-! ### Same -/
def sameS : Sx.Spec where
  fn := 19
  own := []
  rd := [10017, 10117]
  res := [.one .bool]
  pre := fun xs Hs Rs => ∃ s1 n1 u1 s2 n2 u2 b1 b2 R1 R2, xs = [stV s1 n1 u1, stV s2 n2 u2] ∧ Rs = [R1, R2] ∧ n1.length = 16 ∧ n2.length = 16 ∧ RdB R1 u1 b1 ∧ RdB R2 u2 b2
  post := fun xs Hs Rs v Hs' F => ∃ s1 n1 u1 s2 n2 u2 b1 b2 R1 R2, xs = [stV s1 n1 u1, stV s2 n2 u2] ∧ Rs = [R1, R2] ∧ n1.length = 16 ∧ n2.length = 16 ∧ RdB R1 u1 b1 ∧ RdB R2 u2 b2 ∧ (s1 = s2 → n1 = n2 → b1 = b2 → v = .bool true)
def sameNd : Nd := .ext (.alloc 44) (.ext (.alloc 45) (.and (.imp (.eq (.var 0) (.var 21)) (.and (.imp (.and (.eq (.var 1) (.var 22)) (.and (.eq (.var 2) (.var 23)) (.and (.eq (.var 3) (.var 24)) (.and (.eq (.var 4) (.var 25)) (.and (.eq (.var 5) (.var 26)) (.and (.eq (.var 6) (.var 27)) (.and (.eq (.var 7) (.var 28)) (.and (.eq (.var 8) (.var 29)) (.and (.eq (.var 9) (.var 30)) (.and (.eq (.var 10) (.var 31)) (.and (.eq (.var 11) (.var 32)) (.and (.eq (.var 12) (.var 33)) (.and (.eq (.var 13) (.var 34)) (.and (.eq (.var 14) (.var 35)) (.and (.eq (.var 15) (.var 36)) (.eq (.var 16) (.var 37))))))))))))))))) (.and (.e (.or (.eq (.var 17) (.lit (-1))) (.or (.eq (.var 19) (.lit 0)) (.and (.le (.lit 0) (.var 17)) (.and (.le (.lit 0) (.var 18)) (.hby 42 (.var 17) (.var 18) (.var 19))))))) (.and (.e (.or (.eq (.var 38) (.lit (-1))) (.or (.eq (.var 40) (.lit 0)) (.and (.le (.lit 0) (.var 38)) (.and (.le (.lit 0) (.var 39)) (.hby 43 (.var 38) (.var 39) (.var 40))))))) (.post [.ro 42 [.var 17] false, .ro 43 [.var 38] false, .dead, .dead] (.sv (.one (.bool (.seq (.ite (.eq (.var 17) (.lit (-1))) (.slit ⟨#[]⟩) (.sof 42 (.var 17) (.var 18) (.var 19))) (.ite (.eq (.var 38) (.lit (-1))) (.slit ⟨#[]⟩) (.sof 43 (.var 38) (.var 39) (.var 40))))))))))) (.imp (.not (.and (.eq (.var 1) (.var 22)) (.and (.eq (.var 2) (.var 23)) (.and (.eq (.var 3) (.var 24)) (.and (.eq (.var 4) (.var 25)) (.and (.eq (.var 5) (.var 26)) (.and (.eq (.var 6) (.var 27)) (.and (.eq (.var 7) (.var 28)) (.and (.eq (.var 8) (.var 29)) (.and (.eq (.var 9) (.var 30)) (.and (.eq (.var 10) (.var 31)) (.and (.eq (.var 11) (.var 32)) (.and (.eq (.var 12) (.var 33)) (.and (.eq (.var 13) (.var 34)) (.and (.eq (.var 14) (.var 35)) (.and (.eq (.var 15) (.var 36)) (.eq (.var 16) (.var 37)))))))))))))))))) (.post [.ro 42 [.var 17] false, .ro 43 [.var 38] false, .dead, .dead] (.sv (.one (.bool .ff))))))) (.imp (.not (.eq (.var 0) (.var 21))) (.post [.ro 42 [.var 17] false, .ro 43 [.var 38] false, .dead, .dead] (.sv (.one (.bool .ff)))))))
def sameW : Walk Try.prog [] sameS.fn where
  Λ := noLoops
  args := [.sv (.agg (ckCVs 0 stk)), .sv (.agg (ckCVs 21 stk))]
  mem := [.ro 42 [.var 17] false, .ro 43 [.var 38] false]
  nv := 44
  nd := sameNd
  ok := by kernel_rfl
theorem stV_inj {s1 s2 : Int} {n1 n2 : List Int} {u1 u2 : Value} (h1 : n1.length = 16) (h2 : n2.length = 16) (h : stV s1 n1 u1 = stV s2 n2 u2) : s1 = s2 ∧ n1 = n2 ∧ u1 = u2 := by
  unfold stV at h
  have h : [Value.int .u64 s1] ++ bys n1 ++ [u1] = [Value.int .u64 s2] ++ bys n2 ++ [u2] := by simpa using h
  rw [List.append_assoc, List.append_assoc] at h
  obtain ⟨ha, hb⟩ := List.append_inj h rfl
  obtain ⟨hc, hd⟩ := List.append_inj hb (by rw [bys_length, bys_length, h1, h2])
  exact ⟨by simpa using ha, bys_inj hc, by simpa using hd⟩
/-- A state's numbers, in an environment from a place on. -/
theorem stk_ev {q : Env} {n : Nat} {s : Int} {nt : List Int} {x y l c : Int} (hn : nt.length = 16) (h : ∀ k, k < 21 → q.i (n + k) = ([s] ++ nt ++ [x, y, l, c]).getD k 0) : (SV.agg (ckCVs n stk)).ev q = stV s nt (.slice (slP x y) l.toNat c.toNat) := by
  obtain ⟨a1, a2, a3, a4, a5, a6, a7, a8, a9, a10, a11, a12, a13, a14, a15, a16, rfl⟩ := list16 hn
  have e : (SV.agg (ckCVs n stk)).ev q = (SV.agg (ckCVs 0 stk)).ev ⟨fun k => q.i (n + k), q.b, q.s, q.v, q.h⟩ := rfl
  rw [e]
  have ag : Agree 21 (⟨fun k => ([s] ++ [a1, a2, a3, a4, a5, a6, a7, a8, a9, a10, a11, a12, a13, a14, a15, a16] ++ [x, y, l, c]).getD k 0, q.b, q.s, q.v, q.h⟩ : Env) ⟨fun k => q.i (n + k), q.b, q.s, q.v, q.h⟩ := ⟨fun k hk => h k hk, fun _ _ => rfl, fun _ _ => rfl, fun _ _ => rfl, fun _ _ => rfl⟩
  show Value.agg (List.map (CV.ev _) (ckCVs 0 stk)).toArray = _
  rw [CV.agreeL ag _ (ckCVs_upto stk 0)]
  rfl
theorem getL {s x y l c : Int} {n : List Int} (hn : n.length = 16) : ([s] ++ n ++ [x, y, l, c]).getD 17 0 = x ∧ ([s] ++ n ++ [x, y, l, c]).getD 18 0 = y ∧ ([s] ++ n ++ [x, y, l, c]).getD 19 0 = l ∧ ([s] ++ n ++ [x, y, l, c]).getD 0 0 = s ∧ ∀ k, k < 16 → ([s] ++ n ++ [x, y, l, c]).getD (1 + k) 0 = n.getD k 0 := by
  refine ⟨?_, ?_, ?_, rfl, fun k hk => ?_⟩
  · obtain ⟨a1, a2, a3, a4, a5, a6, a7, a8, a9, a10, a11, a12, a13, a14, a15, a16, rfl⟩ := list16 hn; rfl
  · obtain ⟨a1, a2, a3, a4, a5, a6, a7, a8, a9, a10, a11, a12, a13, a14, a15, a16, rfl⟩ := list16 hn; rfl
  · obtain ⟨a1, a2, a3, a4, a5, a6, a7, a8, a9, a10, a11, a12, a13, a14, a15, a16, rfl⟩ := list16 hn; rfl
  · rw [List.getD_eq_getElem?_getD, List.getD_eq_getElem?_getD, List.append_assoc, List.getElem?_append_right (by simp), List.getElem?_append_left (by simp; omega)]
    congr 2
    simp
theorem sameS_ok : sameS.OK Try.prog := by
  refine Spec.of_fn (Γ := []) (fun _ h => by cases h) ?_
  rintro xs Hs Rs hl1 hl2 ⟨s1, n1, u1, s2, n2, u2, b1, b2, R1, R2, rfl, rfl, hn1, hn2, hB1, hB2⟩
  have e0 : Hs = [] := List.length_eq_zero_iff.1 hl1
  subst e0
  obtain ⟨x1, y1, c1, rfl, hy1, hc1⟩ := id hB1
  obtain ⟨x2, y2, c2, rfl, hy2, hc2⟩ := id hB2
  have hx1 : -1 ≤ x1 := by rcases hc1 with ⟨h, _⟩ | ⟨h, _⟩ <;> omega
  have hx2 : -1 ≤ x2 := by rcases hc2 with ⟨h, _⟩ | ⟨h, _⟩ <;> omega
  generalize hL1 : [s1] ++ n1 ++ [x1, y1, (b1.length : Int), (c1 : Int)] = L1
  generalize hL2 : [s2] ++ n2 ++ [x2, y2, (b2.length : Int), (c2 : Int)] = L2
  generalize hρ : (⟨fun k => if k < 21 then L1.getD k 0 else L2.getD (k - 21) 0, fun _ => false, fun _ => .empty, fun _ => .tuple #[], fun k => if k = 42 then R1 else R2⟩ : Env) = ρ
  have i1 : ∀ k, k < 21 → ρ.i (0 + k) = L1.getD k 0 := fun k hk => by
    rw [← hρ]
    show (if 0 + k < 21 then L1.getD (0 + k) 0 else _) = _
    rw [if_pos (by omega), Nat.zero_add]
  have i2 : ∀ k, k < 21 → ρ.i (21 + k) = L2.getD k 0 := fun k hk => by
    rw [← hρ]
    show (if 21 + k < 21 then _ else L2.getD (21 + k - 21) 0) = _
    rw [if_neg (by omega), show 21 + k - 21 = k by omega]
  have w1 : ρ.h 42 = R1 := by rw [← hρ]; rfl
  have w2 : ρ.h 43 = R2 := by rw [← hρ]; rfl
  refine ⟨sameW, ρ, fun _ _ => True, fun _ _ => 0, ?_, ⟨?_, ?_, ?_, ?_⟩, (fun _ h => nomatch h), ?_⟩
  · show [(SV.agg (ckCVs 0 stk)).ev ρ, (SV.agg (ckCVs 21 stk)).ev ρ] = _
    rw [stk_ev hn1 (fun k hk => by rw [i1 k hk, ← hL1]), stk_ev hn2 (fun k hk => by rw [i2 k hk, ← hL2]), Int.toNat_natCast, Int.toNat_natCast, Int.toNat_natCast, Int.toNat_natCast]
  · intro r hr ho; simp [sameW] at hr; rcases hr with rfl | rfl <;> cases ho
  · intro r hr ho
    simp [sameW] at hr
    rcases hr with rfl | rfl
    · refine ⟨R1, by simp, ?_⟩
      show (ρ.h 42).le R1
      rw [w1]; exact Hl.le_refl _
    · refine ⟨R2, by simp, ?_⟩
      show (ρ.h 43).le R2
      rw [w2]; exact Hl.le_refl _
  · simp [sameW, Res.own]
  · intro r hr; simp [sameW] at hr; rcases hr with rfl | rfl <;> trivial
  · show Nd.holds _ _ _ sameNd
    have out : ∀ (q : Env) (t : Mem) (e : E), (s1 = s2 → n1 = n2 → b1 = b2 → bev q e = true) → postOf sameS [stV s1 n1 (.slice (slP x1 y1) b1.length c1), stV s2 n2 (.slice (slP x2 y2) b2.length c2)] [] [R1, R2] q t (.sv (.one (.bool e))) := by
      intro q t e h _
      refine ⟨[], [], rfl, rfl, ⟨⟨fun _ => 0, fun _ => bev q e, fun _ => .empty, fun _ => .tuple #[], fun _ => Hl.none⟩, rfl, trivial, trivial⟩, s1, n1, _, s2, n2, _, b1, b2, R1, R2, rfl, rfl, hn1, hn2, hB1, hB2, fun h1 h2 h3 => ?_⟩
      show Value.bool (bev q e) = _
      rw [h h1 h2 h3]
    unfold sameNd
    simp only [Nd.holds, X.pre, X.rel, X.n, Src.ok, Src.len, Src.vals, true_and, and_true, if_true, Nat.mul_one, Nat.add_zero, Nat.reduceAdd, List.length_cons, List.length_nil, bT_tt, bT_ff, bT_bvar, bT_not, bT_and, bT_or, bT_ite, bT_lt, bT_le, bT_eq, bT_beq, bT_seq, bT_hB, bT_his, bT_hby, bT_hism, bT_hks, iev_lit, iev_var, iev_add, iev_sub, iev_mul, iev_wrap, iev_ite, iev_hI, iev_hP, iev_hmlen, sev_ite, sev_slit, sev_sof, sev_svar, TV.ev, SV.ev, CV.ev, List.map_cons, List.map_nil, Res.hl]
    intro q1 g1 _ q2 g2 _
    have G : Agree 44 ρ q2 := g1.trans (g2.mono (by omega))
    have j1 : ∀ k, k < 21 → q2.i k = L1.getD k 0 := fun k hk => by rw [G.i k (by omega), ← Nat.zero_add k]; exact i1 k hk ▸ by rw [Nat.zero_add]
    have j2 : ∀ k, k < 21 → q2.i (21 + k) = L2.getD k 0 := fun k hk => by rw [G.i (21 + k) (by omega)]; exact i2 k hk
    obtain ⟨p17, p18, p19, p0, pk⟩ := getL (s := s1) (x := x1) (y := y1) (l := b1.length) (c := c1) hn1
    obtain ⟨r17, r18, r19, r0, rk⟩ := getL (s := s2) (x := x2) (y := y2) (l := b2.length) (c := c2) hn2
    rw [hL1] at p17 p18 p19 p0 pk
    rw [hL2] at r17 r18 r19 r0 rk
    have k17 : q2.i 17 = x1 := by rw [j1 17 (by omega), p17]
    have k18 : q2.i 18 = y1 := by rw [j1 18 (by omega), p18]
    have k19 : q2.i 19 = b1.length := by rw [j1 19 (by omega), p19]
    have k38 : q2.i 38 = x2 := by rw [show 38 = 21 + 17 from rfl, j2 17 (by omega), r17]
    have k39 : q2.i 39 = y2 := by rw [show 39 = 21 + 18 from rfl, j2 18 (by omega), r18]
    have k40 : q2.i 40 = b2.length := by rw [show 40 = 21 + 19 from rfl, j2 19 (by omega), r19]
    have h42 : q2.h 42 = R1 := by rw [G.h 42 (by omega), w1]
    have h43 : q2.h 43 = R2 := by rw [G.h 43 (by omega), w2]
    have T1 := RdB.text (R := R1) (x := x1) (y := y1) (l := b1.length) (c := c1) (bs := b1) (by rw [Int.toNat_natCast, Int.toNat_natCast]; exact hB1) hx1 hy1 (by omega)
    have T2 := RdB.text (R := R2) (x := x2) (y := y2) (l := b2.length) (c := c2) (bs := b2) (by rw [Int.toNat_natCast, Int.toNat_natCast]; exact hB2) hx2 hy2 (by omega)
    have e0 : s1 = s2 → q2.i 0 = q2.i 21 := fun h => by
      have := j2 0 (by omega)
      rw [j1 0 (by omega), p0, h, ← r0]; exact this.symm
    have ek : n1 = n2 → ∀ k, k < 16 → q2.i (1 + k) = q2.i (22 + k) := fun h k hk => by
      have := j2 (1 + k) (by omega)
      rw [show 21 + (1 + k) = 22 + k by omega] at this
      rw [j1 (1 + k) (by omega), this, pk k hk, rk k hk, h]
    rw [k17, k18, k19, k38, k39, k40, h42, h43]
    refine ⟨fun _ => ⟨fun _ => ⟨T1.1.imp id Or.inr, T2.1.imp id Or.inr, out q2 _ _ fun _ _ h3 => ?_⟩, fun hne => out q2 _ _ fun _ h2 _ => absurd ?_ hne⟩, fun hne => out q2 _ _ fun h1 _ _ => absurd (e0 h1) hne⟩
    · rw [bT_seq, sev_ite, sev_ite, sev_sof, sev_sof, sev_slit, bev_eq, bev_eq]
      simp only [iev_var, iev_lit, decide_eq_true_eq, k17, k18, k19, k38, k39, k40, h42, h43]
      have t1 : (if x1 = -1 then (⟨#[]⟩ : ByteArray) else bytesOf (cellInts R1 x1.toNat y1.toNat ((b1.length : Int)).toNat)) = bytesOf b1 := T1.2
      have t2 : (if x2 = -1 then (⟨#[]⟩ : ByteArray) else bytesOf (cellInts R2 x2.toNat y2.toNat ((b2.length : Int)).toNat)) = bytesOf b2 := T2.2
      rw [t1, t2, h3]
    · have ek := ek h2
      exact ⟨ek 0 (by omega), ek 1 (by omega), ek 2 (by omega), ek 3 (by omega), ek 4 (by omega), ek 5 (by omega), ek 6 (by omega), ek 7 (by omega), ek 8 (by omega), ek 9 (by omega), ek 10 (by omega), ek 11 (by omega), ek 12 (by omega), ek 13 (by omega), ek 14 (by omega), ek 15 (by omega)⟩
end Go.Proofs.Ytnpepkjfeadbjaa
