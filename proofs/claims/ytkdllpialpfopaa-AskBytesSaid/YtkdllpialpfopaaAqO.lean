/- Layer 22: takeVector, takeWish, as contracts. Condition: bytes below 256. -/
import Derived.Test.YtkdllpialpfopaaAqN
set_option linter.unusedSimpArgs false
set_option linter.unusedVariables false
set_option linter.constructorNameAsVariable false
namespace Go.Proofs.Ytkdllpialpfopaa
open Go Go.Sx Go.Pk

/-- So many numbers are taken. -/
def pNums (m : Int) : Nat → PS → List Int × PS
  | 0, s => ([], s)
  | k + 1, s => (vNum m s :: (pNums m k (pNum m s)).1, (pNums m k (pNum m s)).2)
theorem numsA {m : Int} : ∀ (k : Nat) (s : PS), bytes256 s.l → (pNums m k s).2.bad = false → s.bad = false ∧ s.l = vecB (pNums m k s).1 ++ (pNums m k s).2.l
  | 0, s, _, h => ⟨h, rfl⟩
  | k + 1, s, hb, h => by
    obtain ⟨h1, h2⟩ := numsA k (pNum m s) (num256 hb) h
    obtain ⟨h3, h4, _⟩ := numA hb h1
    refine ⟨h3, ?_⟩
    rw [h4, h2]
    show _ = (numB (vNum m s).toNat ++ vecB (pNums m k (pNum m s)).1) ++ _
    rw [List.append_assoc]; rfl
theorem numsBk {m : Int} : ∀ (vs : List Int) (t : List Int), (∀ v ∈ vs, 0 ≤ v ∧ v ≤ m ∧ v < 18446744073709551616) → pNums m vs.length ⟨vecB vs ++ t, false⟩ = (vs, ⟨t, false⟩)
  | [], t, _ => rfl
  | v :: vs, t, h => by
    have hv := h v (List.mem_cons_self ..)
    have e : vecB (v :: vs) ++ t = numB v.toNat ++ (vecB vs ++ t) := by show (numB v.toNat ++ vecB vs) ++ t = _; rw [List.append_assoc]
    obtain ⟨a1, a2⟩ := numBk (m := m) (z := v.toNat) (t := vecB vs ++ t) (by omega) (by omega)
    show (vNum m _ :: (pNums m vs.length (pNum m _)).1, (pNums m vs.length (pNum m _)).2) = _
    rw [e, a1, a2, numsBk vs t fun w hw => h w (List.mem_cons_of_mem _ hw)]
    simp only [Prod.mk.injEq, List.cons.injEq, and_true]
    omega
theorem nums_len {m : Int} : ∀ (k : Nat) (s : PS), (pNums m k s).1.length = k
  | 0, _ => rfl
  | k + 1, s => by show (_ :: _).length = _; rw [List.length_cons, nums_len]
theorem nums_in {m : Int} (hm : 0 ≤ m) : ∀ (k : Nat) (s : PS), ∀ v ∈ (pNums m k s).1, 0 ≤ v ∧ v ≤ m
  | 0, _, v, h => by cases h
  | k + 1, s, v, h => by
    rcases List.mem_cons.1 h with rfl | h
    · exact vNum_in hm
    · exact nums_in hm k _ v h
theorem nums256 {m : Int} : ∀ (k : Nat) (s : PS), bytes256 s.l → bytes256 (pNums m k s).2.l
  | 0, _, h => h
  | k + 1, s, h => nums256 k _ (num256 h)
def takeVecS : Sx.Spec where
  fn := 32
  own := [.arg 0]
  rd := []
  res := [.agg (List.replicate 6 (.int .u64))]
  pre := fun xs Hs Rs => ∃ p H s, xs = [p] ∧ Hs = [H] ∧ InP H p s
  post := fun xs Hs Rs v Hs' F => ∃ p H s H', xs = [p] ∧ Hs = [H] ∧ InP H p s ∧ Hs' = [H'] ∧ InP H' p (pNums 1048576 6 s).2 ∧ v = .agg (us (pNums 1048576 6 s).1).toArray
def takeVecNd : Nd := .ext (.alloc 2) (.ext (.alloc 3) (.and (.pre (.call 1 4 [.sv (.one (.hptr (.var 0) (.lit 0))), .sv (.one (.int .u64 (.lit 1048576)))] [.hp 1 [] [.var 0] []] [])) (.ext (.call 1 4 [.sv (.one (.hptr (.var 0) (.lit 0))), .sv (.one (.int .u64 (.lit 1048576)))] [.hp 1 [] [.var 0] []] []) (.and (.pre (.call 1 6 [.sv (.one (.hptr (.var 0) (.lit 0))), .sv (.one (.int .u64 (.lit 1048576)))] [.hp 4 [1] [.var 0] []] [])) (.ext (.call 1 6 [.sv (.one (.hptr (.var 0) (.lit 0))), .sv (.one (.int .u64 (.lit 1048576)))] [.hp 4 [1] [.var 0] []] []) (.and (.pre (.call 1 8 [.sv (.one (.hptr (.var 0) (.lit 0))), .sv (.one (.int .u64 (.lit 1048576)))] [.hp 6 [4, 1] [.var 0] []] [])) (.ext (.call 1 8 [.sv (.one (.hptr (.var 0) (.lit 0))), .sv (.one (.int .u64 (.lit 1048576)))] [.hp 6 [4, 1] [.var 0] []] []) (.and (.pre (.call 1 10 [.sv (.one (.hptr (.var 0) (.lit 0))), .sv (.one (.int .u64 (.lit 1048576)))] [.hp 8 [6, 4, 1] [.var 0] []] [])) (.ext (.call 1 10 [.sv (.one (.hptr (.var 0) (.lit 0))), .sv (.one (.int .u64 (.lit 1048576)))] [.hp 8 [6, 4, 1] [.var 0] []] []) (.and (.pre (.call 1 12 [.sv (.one (.hptr (.var 0) (.lit 0))), .sv (.one (.int .u64 (.lit 1048576)))] [.hp 10 [8, 6, 4, 1] [.var 0] []] [])) (.ext (.call 1 12 [.sv (.one (.hptr (.var 0) (.lit 0))), .sv (.one (.int .u64 (.lit 1048576)))] [.hp 10 [8, 6, 4, 1] [.var 0] []] []) (.and (.pre (.call 1 14 [.sv (.one (.hptr (.var 0) (.lit 0))), .sv (.one (.int .u64 (.lit 1048576)))] [.hp 12 [10, 8, 6, 4, 1] [.var 0] []] [])) (.ext (.call 1 14 [.sv (.one (.hptr (.var 0) (.lit 0))), .sv (.one (.int .u64 (.lit 1048576)))] [.hp 12 [10, 8, 6, 4, 1] [.var 0] []] []) (.post [.hp 14 [12, 10, 8, 6, 4, 1] [.var 0] [], .dead, .dead] (.sv (.agg [.int .u64 (.var 4), .int .u64 (.var 6), .int .u64 (.var 8), .int .u64 (.var 10), .int .u64 (.var 12), .int .u64 (.var 14)]))))))))))))))))
noncomputable def takeVecW : Walk Try.prog tkΓ 32 where
  Λ := noLoops
  args := [TP (.var 0) (.lit 0)]
  mem := [.hp 1 [] [.var 0] []]
  nv := 2
  nd := takeVecNd
  ok := by kernel_rfl
theorem tkr1 : numS.res = [.one (.int .u64)] := rfl
theorem tkr2 : flagS.res = [.one .bool] := rfl
theorem tkr3 : rawS.res = [.one .sl] := rfl
theorem takeVecS_ok : takeVecS.OK Try.prog := by
  refine Spec.of_fn (Γ := tkΓ) tkΓ_ok ?_
  rintro xs Hs Rs hl1 hl2 ⟨p, H, s, rfl, rfl, h⟩
  have e1 : Rs = [] := List.length_eq_zero_iff.1 hl2
  subst e1
  obtain ⟨a, x, y, c, F0, rfl, hin⟩ := id h
  refine ⟨takeVecW, envI [(a : Int)] false [Hl.none, H], fun _ _ => True, fun _ _ => 0, ?_, ⟨?_, ?_, ?_, ?_⟩, (fun _ h => nomatch h), ?_⟩
  · show [Value.pointer (slP (a : Int) 0)] = _
    rw [ptr0]
  · intro r hr ho; simp [takeVecW] at hr; subst hr; exact ⟨H, by simp, Hl.le_refl _⟩
  · intro r hr ho; simp [takeVecW] at hr; subst hr; cases ho
  · simp [takeVecW]
  · intro r hr; simp [takeVecW] at hr; subst hr; trivial
  · show Nd.holds _ _ _ takeVecNd
    generalize hρ : envI [(a : Int)] false [Hl.none, H] = ρ
    have w0 : ρ.i 0 = a := by rw [← hρ]; rfl
    have w1 : ρ.h 1 = H := by rw [← hρ]; rfl
    clear hρ
    unfold takeVecNd
    simp only [Nd.holds, X.pre, X.rel, X.n, Src.ok, Src.len, Src.vals, true_and, and_true, if_true, Nat.mul_one, Nat.add_zero, Nat.reduceAdd, List.length_cons, List.length_nil, bT_tt, bT_ff, bT_bvar, bT_not, bT_and, bT_or, bT_ite, bT_lt, bT_le, bT_eq, bT_beq, bT_seq, bT_hB, bT_his, bT_hby, bT_hism, bT_hks, iev_lit, iev_var, iev_add, iev_sub, iev_mul, iev_wrap, iev_ite, iev_hI, iev_hP, iev_hmlen, sev_ite, sev_slit, sev_sof, sev_svar, TV.ev, SV.ev, CV.ev, List.map_cons, List.map_nil, Res.hl, cpTV, Cp.sv, Ck.cv, cpSVs, Cp.len, Ck.len, newHs_zero, newHs_one, roots_ne, tkg1, tkr1]
    intro q0 g0 _ q1 g1 _
    simp only [g1.i, g1.h, g0.i, g0.h, Nat.reduceLT, w0, w1, ptr0]
    refine iNum h fun q2 g2 h2 v2 => ?_
    try simp only [g2.i, g2.h, g1.i, g1.h, g0.i, g0.h, Nat.reduceLT, w0, w1, ptr0]
    refine iNum h2 fun q3 g3 h3 v3 => ?_
    try simp only [g3.i, g3.h, g2.i, g2.h, g1.i, g1.h, g0.i, g0.h, Nat.reduceLT, w0, w1, ptr0]
    refine iNum h3 fun q4 g4 h4 v4 => ?_
    try simp only [g4.i, g4.h, g3.i, g3.h, g2.i, g2.h, g1.i, g1.h, g0.i, g0.h, Nat.reduceLT, w0, w1, ptr0]
    refine iNum h4 fun q5 g5 h5 v5 => ?_
    try simp only [g5.i, g5.h, g4.i, g4.h, g3.i, g3.h, g2.i, g2.h, g1.i, g1.h, g0.i, g0.h, Nat.reduceLT, w0, w1, ptr0]
    refine iNum h5 fun q6 g6 h6 v6 => ?_
    try simp only [g6.i, g6.h, g5.i, g5.h, g4.i, g4.h, g3.i, g3.h, g2.i, g2.h, g1.i, g1.h, g0.i, g0.h, Nat.reduceLT, w0, w1, ptr0]
    refine iNum h6 fun q7 g7 h7 v7 => ?_
    intro _
    have ev : (TV.sv (.agg [.int .u64 (.var 4), .int .u64 (.var 6), .int .u64 (.var 8), .int .u64 (.var 10), .int .u64 (.var 12), .int .u64 (.var 14)])).ev q7 = .agg (us (pNums 1048576 6 s).1).toArray := by
      show Value.agg (us [q7.i 4, q7.i 6, q7.i 8, q7.i 10, q7.i 12, q7.i 14]).toArray = _
      simp only [g7.i, g6.i, g5.i, g4.i, g3.i, g2.i, g1.i, g0.i, Nat.reduceLT, v2, v3, v4, v5, v6, v7]
      rfl
    refine ⟨[[0]], [], rfl, rfl, ⟨envI (pNums 1048576 6 s).1 false [], ?_, ckNorms_pure _ _ _ rfl, trivial⟩, _, H, s, q7.h 14, rfl, rfl, h, ?_, h7, ev⟩
    · rw [ev]; rfl
    · show [hls [q7.h 14]] = _
      rw [hls_one]
/-! ### takeWish -/
def wN (s : PS) : Nat := (vNum 8 (pFlag s)).toNat
def pWish (s : PS) : PS := (pToks (wN s) (pNum 8 (pFlag s))).2
def vWish (s : PS) : List (List Int) := (pToks (wN s) (pNum 8 (pFlag s))).1
def takeWishS : Sx.Spec where
  fn := 33
  own := [.arg 0]
  rd := []
  res := [.agg [.bool, .sl]]
  pre := fun xs Hs Rs => ∃ p H s, xs = [p] ∧ Hs = [H] ∧ InP H p s
  post := fun xs Hs Rs v Hs' F => ∃ p H s H' u, xs = [p] ∧ Hs = [H] ∧ InP H p s ∧ Hs' = [H'] ∧ InP H' p (pWish s) ∧ v = .agg #[.bool (vFlag s), u] ∧ OwR F 26 tkd u ((vWish s).map bys)
def takeWishNd : Nd := .ext (.alloc 2) (.and (.pre (.call 2 3 [.sv (.one (.hptr (.var 0) (.lit 0)))] [.hp 1 [] [.var 0] []] [])) (.ext (.call 2 3 [.sv (.one (.hptr (.var 0) (.lit 0)))] [.hp 1 [] [.var 0] []] []) (.ext (.alloc 5) (.and (.pre (.call 1 6 [.sv (.one (.hptr (.var 0) (.lit 0))), .sv (.one (.int .u64 (.lit 8)))] [.hp 3 [1] [.var 0] []] [])) (.ext (.call 1 6 [.sv (.one (.hptr (.var 0) (.lit 0))), .sv (.one (.int .u64 (.lit 8)))] [.hp 3 [1] [.var 0] []] []) (.and (.inv 0 [⟨50, 0, .int .i64 (.lit 0)⟩, ⟨53, 0, .int .i64 (.lit (-1))⟩, ⟨54, 0, .int .i64 (.lit 0)⟩, ⟨55, 0, .int .i64 (.lit 0)⟩] [(51, some 6), (56, none)]) (.havoc 0 0 8 (.and (.imp (.lt (.var 50) (.var 6)) (.ext (.alloc 60) (.and (.pre (.call 3 61 [.sv (.one (.hptr (.var 0) (.lit 0))), .sv (.one (.int .i64 (.lit 16)))] [.hp 51 [] [.var 0] []] [])) (.ext (.call 3 61 [.sv (.one (.hptr (.var 0) (.lit 0))), .sv (.one (.int .i64 (.lit 16)))] [.hp 51 [] [.var 0] []] []) (.and (.e (.and (.or (.and (.eq (.var 61) (.lit (-1))) (.eq (.var 63) (.lit 0))) (.and (.le (.lit 0) (.var 61)) (.and (.le (.lit 0) (.var 62)) (.hby 62 (.var 61) (.var 62) (.ite (.lt (.var 63) (.lit 16)) (.var 63) (.lit 16)))))) (.and (.le (.lit 0) (.var 63)) (.le (.ite (.lt (.var 63) (.lit 16)) (.var 63) (.lit 16)) (.lit 16))))) (.ext (.alloc 65) (.and (.pre (.app 66 26 16 16 (.sl (.var 53) (.lit 0) (.var 54) (.var 55)) (.var 54) (.hp 56 [] [.var 53] []) (.cvs (cpyD 16 (.ite (.lt (.var 63) (.lit 16)) (.var 63) (.lit 16)) 62 (.var 61) (.var 62) (fun _ => .lit 0)) 1))) (.ext (.app 66 26 16 16 (.sl (.var 53) (.lit 0) (.var 54) (.var 55)) (.var 54) (.hp 56 [] [.var 53] []) (.cvs (cpyD 16 (.ite (.lt (.var 63) (.lit 16)) (.var 63) (.lit 16)) 62 (.var 61) (.var 62) (fun _ => .lit 0)) 1)) (.back 0 0 [⟨50, 0, .int .i64 (.wrap .u64 (.add (.var 50) (.lit 1)))⟩, ⟨53, 0, .int .i64 (.var 66)⟩, ⟨54, 0, .int .i64 (.add (.var 54) (.lit 1))⟩, ⟨55, 0, .int .i64 (.var 67)⟩] [(51, some 61), (56, some 66)]))))))))) (.imp (.not (.lt (.var 50) (.var 6))) (.post [.hp 51 [] [.var 0] [], .dead, .dead, .hp 56 [] [.var 53] []] (.sv (.agg [.bool (.bvar 3), .sl (.var 53) (.lit 0) (.var 54) (.var 55)]))))))))))))
noncomputable def takeWishW : Walk Try.prog tkΓ 33 where
  Λ := fun p => if lp0 p then some ⟨0, [(10, TI .u64 (.var 50))], [(0, .hp 51 [] [.var 0] []), (2, .blk 5 [.bool (.bvar 3), .sl (.var 53) (.lit 0) (.var 54) (.var 55)] 36), (3, .hp 56 [] [.var 53] [])], 60⟩ else none
  args := [TP (.var 0) (.lit 0)]
  mem := [.hp 1 [] [.var 0] []]
  nv := 2
  nd := takeWishNd
  ok := by kernel_rfl
theorem takeWishS_ok : takeWishS.OK Try.prog := by
  refine Spec.of_fn (Γ := tkΓ) tkΓ_ok ?_
  rintro xs Hs Rs hl1 hl2 ⟨p, H, s, rfl, rfl, h⟩
  have e1 : Rs = [] := List.length_eq_zero_iff.1 hl2
  subst e1
  obtain ⟨a, x, y, c, F0, rfl, hin⟩ := id h
  refine ⟨takeWishW, envI [(a : Int)] false [Hl.none, H], fun _ q => ∃ k : Nat, q.i 50 = k ∧ k ≤ wN s ∧ InP (q.h 51) (.pointer (some ⟨a, 0, none⟩)) (pToks k (pNum 8 (pFlag s))).2 ∧ -1 ≤ q.i 53 ∧ q.i 54 = k ∧ 0 ≤ q.i 55 ∧ OwR (q.h 56) 26 tkd (.slice (slP (q.i 53) 0) (q.i 54).toNat (q.i 55).toNat) ((pToks k (pNum 8 (pFlag s))).1.map bys), fun _ q => (wN s - q.i 50).toNat, ?_, ⟨?_, ?_, ?_, ?_⟩, (fun _ h => nomatch h), ?_⟩
  · show [Value.pointer (slP (a : Int) 0)] = _
    rw [ptr0]
  · intro r hr ho; simp [takeWishW] at hr; subst hr; exact ⟨H, by simp, Hl.le_refl _⟩
  · intro r hr ho; simp [takeWishW] at hr; subst hr; cases ho
  · simp [takeWishW]
  · intro r hr; simp [takeWishW] at hr; subst hr; trivial
  · show Nd.holds _ _ _ takeWishNd
    generalize hρ : envI [(a : Int)] false [Hl.none, H] = ρ
    have w0 : ρ.i 0 = a := by rw [← hρ]; rfl
    have w1 : ρ.h 1 = H := by rw [← hρ]; rfl
    clear hρ
    unfold takeWishNd
    simp only [Nd.holds, X.pre, X.rel, X.n, Src.ok, Src.len, Src.vals, true_and, and_true, if_true, Nat.mul_one, Nat.add_zero, Nat.reduceAdd, List.length_cons, List.length_nil, bT_tt, bT_ff, bT_bvar, bT_not, bT_and, bT_or, bT_ite, bT_lt, bT_le, bT_eq, bT_beq, bT_seq, bT_hB, bT_his, bT_hby, bT_hism, bT_hks, iev_lit, iev_var, iev_add, iev_sub, iev_mul, iev_wrap, iev_ite, iev_hI, iev_hP, iev_hmlen, sev_ite, sev_slit, sev_sof, sev_svar, TV.ev, SV.ev, CV.ev, List.map_cons, List.map_nil, Res.hl, cpTV, Cp.sv, Ck.cv, cpSVs, Cp.len, Ck.len, newHs_zero, newHs_one, roots_ne, tkg1, tkr1, tkg2, tkr2, tkg3, tkr3, rcc0]
    intro q0 g0 _
    simp only [g0.i, g0.h, Nat.reduceLT, w0, w1, ptr0]
    refine iFlag h fun q1 g1 h1 v1 q2 g2 _ => ?_
    simp only [g2.i, g2.h, g1.i, g1.h, g0.i, g0.h, Nat.reduceLT, w0, w1, ptr0]
    refine iNum h1 fun q3 g3 h3 v3 => ?_
    have v3 : q3.i 6 = vNum 8 (pFlag s) := v3
    have v3in := vNum_in (s := pFlag s) (m := 8) (by omega)
    have hN8 : wN s ≤ 8 := by unfold wN; omega
    have hN : q3.i 6 = wN s := by unfold wN; omega
    refine ⟨⟨0, rfl, Nat.zero_le _, h3, Int.le_refl _, rfl, Int.le_refl _, OwR.nil _ _ _⟩, fun q g ⟨k, ek, hk, hP, A0, y54, C0, hO⟩ => ?_⟩
    have hrl : (((pToks k (pNum 8 (pFlag s))).1.map bys).length : Int) = k := by rw [List.length_map, toks_len]
    have g02 : Agree 8 q3 q := g
    simp only [g.i, g.b, g3.i, g3.b, g2.i, g2.b, Nat.reduceLT, hN, ek]
    refine ⟨fun hlt q4 g4 _ => ?_, fun hge => ?_⟩
    · simp only [g4.i, g4.h, g.i, g3.i, g2.i, g1.i, g0.i, Nat.reduceLT, w0, ptr0]
      refine iRaw hP fun q5 g5 h5 t5 => ?_
      have t5 : Took (q5.h 62) (q5.i 61) (q5.i 62) (q5.i 63) (q5.i 64) (vRaw 16 (pToks k (pNum 8 (pFlag s))).2) := t5
      refine ⟨t5.must0 (by omega) (by omega), fun q6 g6 _ => ?_⟩
      have t6 := t5.ag g6 (by omega) (by omega) (by omega) (by omega) (by omega)
      rw [cpyD_ev (w := 16) (n := 16) (old := fun _ => .lit 0) t6 rfl (fun _ _ => rfl)]
      simp only [g6.i, g6.h, g5.i, g5.h, g4.i, g4.h, Nat.reduceLT]
      refine ⟨⟨⟨_, OwR.pre hO (by omega)⟩, by omega, by unfold maxLen; omega, by omega⟩, fun q7 g7 ⟨A1, C1, happ, _⟩ => ?_⟩
      have hO2 := OwR.app (row := bys (padN 16 (vRaw 16 (pToks k (pNum 8 (pFlag s))).2))) hO (by omega) (rowOK_tok (padN_len _ _)) happ
      have e50 : IntKind.u64.wrap (q7.i 50 + 1) = ((k + 1 : Nat) : Int) := by
        simp only [g7.i, g6.i, g5.i, g4.i, Nat.reduceLT]
        rw [ek, wu64 (by omega) (by omega)]; omega
      have e54 : q7.i 54 + 1 = ((k + 1 : Nat) : Int) := by
        simp only [g7.i, g6.i, g5.i, g4.i, Nat.reduceLT]
        rw [y54]; omega
      refine ⟨⟨k + 1, e50, by omega, ?_, A1, e54, C1, ?_⟩, ?_⟩
      · show InP (q7.h 61) _ (pRaw 16 (pToks k (pNum 8 (pFlag s))).2)
        rw [g7.h 61 (by omega), g6.h 61 (by omega)]; exact h5
      · show OwR (q7.h 66) _ _ (.slice (slP (q7.i 66) 0) (q7.i 54 + 1).toNat (q7.i 67).toNat) (((pToks k (pNum 8 (pFlag s))).1 ++ [padN 16 (vRaw 16 (pToks k (pNum 8 (pFlag s))).2)]).map bys)
        rw [List.map_append, e54]
        rw [y54] at hO2
        exact hO2
      · show ((wN s : Int) - IntKind.u64.wrap (q7.i 50 + 1)).toNat < _
        rw [e50]; omega
    · have hkN : k = wN s := by omega
      subst hkN
      intro _
      have eb : q.b 3 = vFlag s := by
        simp only [g.b, g3.b, g2.b, Nat.reduceLT]
        exact v1
      have ev : (TV.sv (.agg [.bool (.bvar 3), .sl (.var 53) (.lit 0) (.var 54) (.var 55)])).ev q = .agg #[.bool (vFlag s), .slice (slP (q.i 53) 0) (q.i 54).toNat (q.i 55).toNat] := by
        show Value.agg #[.bool (q.b 3), _] = _
        rw [eb]; rfl
      refine ⟨[[0]], [3], rfl, rfl, ⟨⟨fun j => [0, q.i 53, 0, q.i 54, q.i 55].getD j 0, fun _ => vFlag s, fun _ => .empty, fun _ => .tuple #[], fun _ => Hl.none⟩, ?_, ⟨trivial, ⟨A0, Int.le_refl _, by show 0 ≤ q.i 54; omega, C0⟩, trivial⟩, trivial⟩, _, H, s, q.h 51, _, rfl, rfl, h, ?_, hP, ev, ?_⟩
      · rw [ev]; rfl
      · show [hls [q.h 51]] = _
        rw [hls_one]
      · show OwR (hls [q.h 56]) _ _ _ _
        rw [hls_one]; exact hO
end Go.Proofs.Ytkdllpialpfopaa
