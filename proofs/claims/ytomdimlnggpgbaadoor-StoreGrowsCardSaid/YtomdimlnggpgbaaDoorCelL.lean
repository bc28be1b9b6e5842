/- Layer 8: bytes put behind a log's, as a contract. No condition. -/
import Derived.Test.YtomdimlnggpgbaaDoorCelK
set_option linter.unusedSimpArgs false
set_option linter.unusedVariables false
set_option linter.constructorNameAsVariable false
namespace Go.Proofs.YtomdimlnggpgbaaDoor.D
open Go Go.Sx

structure AR where
  e : Int
  D : DM
  L : LM
  bs : List Int
def appendR (D : DM) (L : LM) (bs b nt : List Int) : AR :=
  if L.over then ⟨5, D, L, bs⟩
  else if 4611686018427387904 ≤ L.serial then ⟨14, D, L, bs⟩
  else if L.most - bs.length < b.length then ⟨4, D, L, bs⟩
  else if (becomeR D L (bs ++ b) nt bs.length).1 = 0 then ⟨0, (becomeR D L (bs ++ b) nt bs.length).2, grownL L (bs ++ b) nt, bs ++ b⟩
  else ⟨5, (becomeR D L (bs ++ b) nt bs.length).2, overL L, bs⟩
theorem becomeR_code (D : DM) (L : LM) (all nt : List Int) (n : Nat) : (becomeR D L all nt n).1 = 0 ∨ (becomeR D L all nt n).1 = 5 := by
  unfold becomeR
  split
  · exact Or.inr rfl
  · split
    · exact Or.inr rfl
    · exact Or.inl rfl
def appendS : Sx.Spec where
  fn := 16
  own := [.arg 0, .link 0 0]
  rd := [1]
  res := [.one (.int .i64)]
  pre := fun xs Hs Rs => ∃ p u b nt H HD R dp L bs D, xs = [p, u, .agg (bys nt).toArray] ∧ Hs = [H, HD] ∧ Rs = [R] ∧ LogAt H p dp L bs ∧ DiskAt HD dp D ∧ RdW R u b ∧ bs.length ≤ 1048576 ∧ nt.length = 16 ∧ 0 ≤ L.serial
  post := fun xs Hs Rs v Hs' F => ∃ p u b nt H HD R dp L bs D H' HD', xs = [p, u, .agg (bys nt).toArray] ∧ Hs = [H, HD] ∧ Rs = [R] ∧ LogAt H p dp L bs ∧ DiskAt HD dp D ∧ RdW R u b ∧ Hs' = [H', HD'] ∧ DiskAt HD' dp (appendR D L bs b nt).D ∧ LogAt H' p dp (appendR D L bs b nt).L (appendR D L bs b nt).bs ∧ v = .int .i64 (appendR D L bs b nt).e
def appendNd : Nd := .ext (.alloc 51) (.and (.imp (.bvar 47) (.post [.blk 0 (ckCVs 21 ([Ck.ptr, Ck.int .i64, Ck.int .i64, Ck.int .u64, Ck.int .u64] ++ List.replicate 16 (Ck.int .u8) ++ [Ck.sl, Ck.bool])) 81, .hp 48 [] [.var 21] [], .hp 49 [] [.var 43] [], .ro 50 [.var 1] false, .dead] (.sv (.one (.int .i64 (.lit 5)))))) (.imp (.not (.bvar 47)) (.and (.imp (.le (.lit 4611686018427387904) (.var 25)) (.post [.blk 0 (ckCVs 21 ([Ck.ptr, Ck.int .i64, Ck.int .i64, Ck.int .u64, Ck.int .u64] ++ List.replicate 16 (Ck.int .u8) ++ [Ck.sl, Ck.bool])) 81, .hp 48 [] [.var 21] [], .hp 49 [] [.var 43] [], .ro 50 [.var 1] false, .dead] (.sv (.one (.int .i64 (.lit 14)))))) (.imp (.not (.le (.lit 4611686018427387904) (.var 25))) (.and (.e (.le (.lit 0) (.var 3))) (.and (.pre (.call 0 52 [.sv (.one (.hptr (.var 0) (.lit 0)))] [] [.blk 0 (ckCVs 21 ([Ck.ptr, Ck.int .i64, Ck.int .i64, Ck.int .u64, Ck.int .u64] ++ List.replicate 16 (Ck.int .u8) ++ [Ck.sl, Ck.bool])) 81])) (.ext (.call 0 52 [.sv (.one (.hptr (.var 0) (.lit 0)))] [] [.blk 0 (ckCVs 21 ([Ck.ptr, Ck.int .i64, Ck.int .i64, Ck.int .u64, Ck.int .u64] ++ List.replicate 16 (Ck.int .u8) ++ [Ck.sl, Ck.bool])) 81]) (.and (.imp (.lt (.var 52) (.var 3)) (.post [.blk 0 (ckCVs 21 ([Ck.ptr, Ck.int .i64, Ck.int .i64, Ck.int .u64, Ck.int .u64] ++ List.replicate 16 (Ck.int .u8) ++ [Ck.sl, Ck.bool])) 81, .hp 48 [] [.var 21] [], .hp 49 [] [.var 43] [], .ro 50 [.var 1] false, .dead] (.sv (.one (.int .i64 (.lit 4)))))) (.imp (.not (.lt (.var 52) (.var 3))) (.and (.pre (.call 1 53 [.sv (.one (.hptr (.var 0) (.lit 0)))] [] [.blk 0 (ckCVs 21 ([Ck.ptr, Ck.int .i64, Ck.int .i64, Ck.int .u64, Ck.int .u64] ++ List.replicate 16 (Ck.int .u8) ++ [Ck.sl, Ck.bool])) 81, .hp 49 [] [.var 43] []])) (.ext (.call 1 53 [.sv (.one (.hptr (.var 0) (.lit 0)))] [] [.blk 0 (ckCVs 21 ([Ck.ptr, Ck.int .i64, Ck.int .i64, Ck.int .u64, Ck.int .u64] ++ List.replicate 16 (Ck.int .u8) ++ [Ck.sl, Ck.bool])) 81, .hp 49 [] [.var 43] []]) (.and (.pre (.app 57 5 1 1 (.sl (.var 53) (.var 54) (.var 55) (.var 56)) (.var 55) (.hp 53 [] [.var 53] []) (.seg 50 (.var 1) (.var 2) (.var 3)))) (.ext (.app 57 5 1 1 (.sl (.var 53) (.var 54) (.var 55) (.var 56)) (.var 55) (.hp 53 [] [.var 53] []) (.seg 50 (.var 1) (.var 2) (.var 3))) (.and (.pre (.call 2 59 [.sv (.one (.hptr (.var 0) (.lit 0))), .sv (.one (.sl (.var 57) (.lit 0) (.add (.var 55) (.var 3)) (.var 58))), .sv (.agg (ckCVs 5 (List.replicate 16 (Ck.int .u8)))), .sv (.one (.bool .tt))] [.blk 0 (ckCVs 21 ([Ck.ptr, Ck.int .i64, Ck.int .i64, Ck.int .u64, Ck.int .u64] ++ List.replicate 16 (Ck.int .u8) ++ [Ck.sl, Ck.bool])) 81, .hp 57 [53] [.var 57, .var 53] [], .hp 48 [] [.var 21] []] [])) (.ext (.call 2 59 [.sv (.one (.hptr (.var 0) (.lit 0))), .sv (.one (.sl (.var 57) (.lit 0) (.add (.var 55) (.var 3)) (.var 58))), .sv (.agg (ckCVs 5 (List.replicate 16 (Ck.int .u8)))), .sv (.one (.bool .tt))] [.blk 0 (ckCVs 21 ([Ck.ptr, Ck.int .i64, Ck.int .i64, Ck.int .u64, Ck.int .u64] ++ List.replicate 16 (Ck.int .u8) ++ [Ck.sl, Ck.bool])) 81, .hp 57 [53] [.var 57, .var 53] [], .hp 48 [] [.var 21] []] []) (.post [.hp 59 [] [.var 0] [], .hp 61 [48] [.var 21] [], .hp 49 [] [.var 43] [], .ro 50 [.var 1] false, .dead, .hp 60 [57, 53] [.var 57, .var 53] []] (.sv (.one (.int .i64 (.var 59))))))))))))))))))))
def appendΓ : List Sx.Spec := [roomS, bytesS, becomeS]
theorem appendΓ_ok : ∀ t ∈ appendΓ, t.OK Tryd.prog := fun t ht => by
  simp only [appendΓ, List.mem_cons, List.mem_nil_iff, or_false] at ht
  rcases ht with rfl | rfl | rfl
  · exact roomS_ok
  · exact bytesS_ok
  · exact becomeS_ok
def appendW : Walk Tryd.prog appendΓ appendS.fn where
  Λ := noLoops
  args := [TP (.var 0) (.lit 0), .sv (.one (.sl (.var 1) (.var 2) (.var 3) (.var 4))), .sv (.agg (ckCVs 5 (u8s 16)))]
  mem := [.blk 0 (ckCVs 21 logK ++ [.sl (.var 43) (.var 44) (.var 45) (.var 46), .bool (.bvar 47)]) 81, .hp 48 [] [.var 21] [], .hp 49 [] [.var 43] [], .ro 50 [.var 1] false]
  nv := 51
  nd := appendNd
  ok := by kernel_rfl
theorem ag0 : appendΓ[0]? = some roomS := rfl
theorem ag1 : appendΓ[1]? = some bytesS := rfl
theorem ag2 : appendΓ[2]? = some becomeS := rfl
theorem ar0 : roomS.res = [.one (.int .i64)] := rfl
theorem ar1 : bytesS.res = [.one .sl] := rfl
theorem ar2 : becomeS.res = [.one (.int .i64)] := rfl
theorem ac1 : (cpRoots 0 [Cp.one .sl] ≠ []) = True := by simp [cpRoots, Cp.roots, Ck.root]
def appEnv (a : Nat) (x y : Int) (n c : Nat) (nt : List Int) (da : Nat) (L : LM) (sx : Int) (sn sc : Nat) (HD HB R : Hl) : Env :=
  ⟨fun k => if k < 5 then [(a : Int), x, y, n, c].getD k 0 else if k < 21 then nt.getD (k - 5) 0 else if k < 43 then (lInts da L).getD (k - 21) 0 else [sx, 0, (sn : Int), (sc : Int)].getD (k - 43) 0, fun _ => L.over, fun _ => .empty, fun _ => .tuple #[], fun k => if k = 48 then HD else if k = 49 then HB else R⟩
theorem appendS_ok : appendS.OK Tryd.prog := by
  refine spec_of_fn2 (Γ := appendΓ) appendΓ_ok ?_
  rintro xs Hs Rs hl1 hl2 hdis ⟨p, u, b, nt, H, HD, R, dp, L, bs, D, rfl, rfl, rfl, hAt, hD, hB, hbs, hnt, hs0⟩
  obtain ⟨a, sl, HB, rfl, hok, hO, hone, hH⟩ := id hAt
  obtain ⟨da, s, m, es, clock, hdp, hDi⟩ := id hD
  obtain ⟨x, y, c, hu, hy, hcell⟩ := id hB
  obtain ⟨sx, sc, hsx, hsl, hsc, _⟩ := OwB.rep hO
  generalize hρ : appEnv a x y b.length c nt da L sx bs.length sc HD HB R = ρ
  have v0 : ρ.i 0 = a := by rw [← hρ]; rfl
  have v1 : ρ.i 1 = x := by rw [← hρ]; rfl
  have v2 : ρ.i 2 = y := by rw [← hρ]; rfl
  have v3 : ρ.i 3 = b.length := by rw [← hρ]; rfl
  have v4 : ρ.i 4 = c := by rw [← hρ]; rfl
  have w48 : ρ.h 48 = HD := by rw [← hρ]; rfl
  have w49 : ρ.h 49 = HB := by rw [← hρ]; rfl
  have w50 : ρ.h 50 = R := by rw [← hρ]; rfl
  have b47 : ρ.b 47 = L.over := by rw [← hρ]; rfl
  have rk : ∀ k, k < 22 → ρ.i (21 + k) = (lInts da L).getD k 0 := fun k hk => by
    rw [← hρ]
    show (if 21 + k < 5 then _ else if 21 + k < 21 then _ else if 21 + k < 43 then (lInts da L).getD (21 + k - 21) 0 else _) = _
    rw [if_neg (by omega), if_neg (by omega), if_pos (by omega), show 21 + k - 21 = k by omega]
  have rn : ∀ k, k < 16 → ρ.i (5 + k) = nt.getD k 0 := fun k hk => by
    rw [← hρ]
    show (if 5 + k < 5 then _ else if 5 + k < 21 then nt.getD (5 + k - 5) 0 else _) = _
    rw [if_neg (by omega), if_pos (by omega), show 5 + k - 5 = k by omega]
  have lk : ∀ q : Env, Agree 51 ρ q → ∀ k, k < 22 → q.i (21 + k) = (lInts da L).getD k 0 := fun q g k hk => by rw [g.i _ (by omega)]; exact rk k hk
  have ls : ∀ q : Env, Agree 51 ρ q → CV.ev q (.sl (.var 43) (.var 44) (.var 45) (.var 46)) = sl := by
    intro q g
    simp only [CV.ev, iev_var, g.i 43 (by omega), g.i 44 (by omega), g.i 45 (by omega), g.i 46 (by omega)]
    rw [← hρ, hsl]
    show Value.slice (slP sx 0) ((bs.length : Int)).toNat ((sc : Int)).toNat = _
    rw [Int.toNat_natCast, Int.toNat_natCast]
  have eB : ∀ (q : Env), Agree 51 ρ q → (Res.blk 0 (ckCVs 21 logK ++ [.sl (.var 43) (.var 44) (.var 45) (.var 46), .bool (.bvar 47)]) 81).hl q = Hl.one a (lObj dp sl L) := by
    intro q g
    show Hl.one (q.i 0).toNat (.cells ((ckCVs 21 logK ++ [CV.sl (.var 43) (.var 44) (.var 45) (.var 46), .bool (.bvar 47)]).map (CV.ev q)).toArray _ (0, 0)) = _
    have e2 : CV.ev q (.bool (.bvar 47)) = .bool L.over := by
      show Value.bool (q.b 47) = _
      rw [g.b 47 (by omega), b47]
    rw [List.map_append, logK_ev hok (lk q g), g.i 0 (by omega), v0, List.map_cons, List.map_cons, List.map_nil, ls q g, e2, List.append_assoc, ← hdp, Int.toNat_natCast]
    rfl
  have hle1 : (Hl.one a (lObj dp sl L)).le H := by rw [hH]; exact Hl.un_left _ _
  have hle2 : HB.le H := by
    rw [hH]
    show HB.le ((Hl.one a (lObj dp sl L)).un (hls [HB]))
    rw [hls_one]; exact Hl.un_right hone
  have hHD : H.dis HD := hdis 0 1 _ _ (by decide) rfl rfl
  refine ⟨appendW, ρ, fun _ _ => True, fun _ _ => 0, ?_, ⟨?_, ?_, ?_, ?_⟩, (fun _ h => nomatch h), ?_⟩
  · show [Value.pointer (slP (ρ.i 0) 0), Value.slice (slP (ρ.i 1) (ρ.i 2)) (ρ.i 3).toNat (ρ.i 4).toNat, Value.agg ((ckCVs 5 (u8s 16)).map (CV.ev ρ)).toArray] = _
    unfold u8s
    rw [v0, v1, v2, v3, v4, dArg, Int.toNat_natCast, Int.toNat_natCast, ← hu, u8_ev 16 5 nt hnt rn]
  · intro r hr ho
    simp only [appendW, List.mem_cons, List.mem_nil_iff, or_false] at hr
    rcases hr with rfl | rfl | rfl | rfl
    · refine ⟨H, by simp, ?_⟩
      rw [eB ρ (Agree.refl _ _)]; exact hle1
    · refine ⟨HD, by simp, ?_⟩
      show (ρ.h 48).le HD
      rw [w48]; exact Hl.le_refl _
    · refine ⟨H, by simp, ?_⟩
      show (ρ.h 49).le H
      rw [w49]; exact hle2
    · cases ho
  · intro r hr ho
    simp only [appendW, List.mem_cons, List.mem_nil_iff, or_false] at hr
    rcases hr with rfl | rfl | rfl | rfl
    · cases ho
    · cases ho
    · cases ho
    · refine ⟨R, by simp, ?_⟩
      show (ρ.h 50).le R
      rw [w50]; exact Hl.le_refl _
  · have d1 : HD.dis HB := fun k ⟨h1, h2⟩ => hHD k ⟨Hl.le_mem hle2 h2, h1⟩
    refine List.Pairwise.cons (fun r hr _ ho => ?_) (List.Pairwise.cons (fun r hr _ ho => ?_) (List.Pairwise.cons (fun r hr _ ho => ?_) (List.Pairwise.cons (fun r hr => by cases hr) List.Pairwise.nil)))
    · simp only [List.mem_cons, List.mem_nil_iff, or_false] at hr
      rw [eB ρ (Agree.refl _ _)]
      rcases hr with rfl | rfl | rfl
      · show Hl.dis _ (ρ.h 48)
        rw [w48]
        exact fun k ⟨h1, h2⟩ => hHD k ⟨Hl.le_mem hle1 h1, h2⟩
      · show Hl.dis _ (ρ.h 49)
        rw [w49]; exact hone
      · cases ho
    · simp only [List.mem_cons, List.mem_nil_iff, or_false] at hr
      rcases hr with rfl | rfl
      · show (ρ.h 48).dis (ρ.h 49)
        rw [w48, w49]; exact d1
      · cases ho
    · rw [List.mem_singleton] at hr
      subst hr; cases ho
  · intro r hr
    simp only [appendW, List.mem_cons, List.mem_nil_iff, or_false] at hr
    rcases hr with rfl | rfl | rfl | rfl
    · show (0 : Int) ≤ ρ.i 0
      rw [v0]; omega
    · trivial
    · trivial
    · trivial
  · show Nd.holds _ _ _ appendNd
    have eB2 : ∀ q : Env, Agree 51 ρ q → Hl.one a (Obj.cells (List.map (CV.ev q) (ckCVs 21 ([Ck.ptr, Ck.int IntKind.i64, Ck.int IntKind.i64, Ck.int IntKind.u64, Ck.int IntKind.u64] ++ List.replicate 16 (Ck.int IntKind.u8) ++ [Ck.sl, Ck.bool]))).toArray 81 (0, 0)) = Hl.one a (lObj dp sl L) := by
      intro q g
      have h : Hl.one (q.i 0).toNat (Obj.cells (List.map (CV.ev q) (ckCVs 21 ([Ck.ptr, Ck.int IntKind.i64, Ck.int IntKind.i64, Ck.int IntKind.u64, Ck.int IntKind.u64] ++ List.replicate 16 (Ck.int IntKind.u8) ++ [Ck.sl, Ck.bool]))).toArray 81 (0, 0)) = Hl.one a (lObj dp sl L) := eB q g
      rw [g.i 0 (by omega), v0, Int.toNat_natCast] at h
      exact h
    have eN : ∀ q : Env, Agree 51 ρ q → (ckCVs 5 (List.replicate 16 (Ck.int IntKind.u8))).map (CV.ev q) = bys nt := fun q g => u8_ev 16 5 nt hnt fun k hk => by rw [g.i _ (by omega)]; exact rn k hk
    have i25 : ∀ q : Env, Agree 51 ρ q → q.i 25 = L.serial := fun q g => lk q g 4 (by omega)
    have hIn : LogIn (Hl.one a (lObj dp sl L)) a dp sl L := ⟨hok, Hl.one_self _ _⟩
    have hRd : LogRd (Hl.one a (lObj dp sl L)) (.pointer (some ⟨a, 0, none⟩)) dp sl L := ⟨a, rfl, hIn⟩
    have hslO : slOf sl bs.length := OwB.slOf hO
    obtain ⟨m0, m1⟩ := hok.most
    have out : ∀ (q : Env) (t : Mem) (e : Int), Agree 51 ρ q → appendR D L bs b nt = ⟨e, D, L, bs⟩ →
        postOf appendS [.pointer (some ⟨a, 0, none⟩), u, .agg (bys nt).toArray] [H, HD] [R] q (.blk 0 (ckCVs 21 ([Ck.ptr, Ck.int IntKind.i64, Ck.int IntKind.i64, Ck.int IntKind.u64, Ck.int IntKind.u64] ++ List.replicate 16 (Ck.int IntKind.u8) ++ [Ck.sl, Ck.bool])) 81 :: .hp 48 [] [.var 21] [] :: .hp 49 [] [.var 43] [] :: t) (.sv (.one (.int .i64 (.lit e)))) := by
      intro q t e hq hr _
      refine ⟨[[0, 2], [1]], [], rfl, rfl, ⟨⟨fun _ => e, fun _ => false, fun _ => .empty, fun _ => .tuple #[], fun _ => Hl.none⟩, rfl, trivial, trivial⟩, _, u, b, nt, H, HD, R, dp, L, bs, D, _, _, rfl, rfl, rfl, hAt, hD, hB, rfl, ?_, ?_, ?_⟩
      · show DiskAt (hls [q.h 48]) _ _
        rw [hls_one, hr, hq.h 48 (by omega), w48]; exact hD
      · rw [hr]
        refine ⟨a, sl, HB, rfl, hok, hO, hone, ?_⟩
        have e49 : q.h 49 = HB := by rw [hq.h 49 (by omega), w49]
        rw [← e49]
        exact congrArg (fun z => hls [z, q.h 49]) (eB q hq)
      · rw [hr]; rfl
    unfold appendNd
    simp only [Nd.holds, X.pre, X.rel, X.n, Src.ok, Src.len, Src.vals, true_and, and_true, if_true, Nat.mul_one, Nat.add_zero, Nat.reduceAdd, List.length_cons, List.length_nil, bT_tt, bT_ff, bT_bvar, bT_not, bT_and, bT_or, bT_ite, bT_lt, bT_le, bT_eq, bT_beq, bT_seq, bT_hB, bT_his, bT_hby, bT_hism, bT_hks, iev_lit, iev_var, iev_add, iev_sub, iev_mul, iev_wrap, iev_ite, iev_hI, iev_hP, iev_hmlen, sev_ite, sev_slit, sev_sof, sev_svar, TV.ev, SV.ev, CV.ev, List.map_cons, List.map_nil, Res.hl, cpTV, Cp.sv, Ck.cv, cpSVs, Cp.len, Ck.len, newHs_zero, newHs_one, roots_ne, ag0, ag1, ag2, ar0, ar1, ar2, ac1]
    intro q1 g1 _
    rw [g1.b 47 (by omega), b47, i25 q1 g1, g1.i 3 (by omega), v3, g1.i 0 (by omega), v0, dArg, Int.toNat_natCast, eB2 q1 g1]
    refine ⟨fun ho => out q1 _ 5 g1 ?_, fun ho => ⟨fun hs => out q1 _ 14 g1 ?_, fun hs => ⟨by omega, ⟨_, _, dp, sl, L, bs.length, rfl, rfl, hRd, hslO, hbs⟩, fun q2 g2 ⟨F, ⟨p', R', dp', sl', L', n', hx, hR, hLx, hsx', hvq⟩, _, _⟩ => ?_⟩⟩⟩
    · unfold appendR; rw [if_pos ho]
    · unfold appendR; rw [if_neg ho, if_pos hs]
    have hx : Value.pointer (some ⟨a, 0, none⟩) = p' := by simpa using hx
    subst hx
    have hR : Hl.one a (lObj dp sl L) = R' := by simpa using hR
    subst hR
    obtain ⟨rfl, rfl, rfl⟩ := hRd.uniq hLx
    have e := hsx'.uniq hslO
    subst e
    have hvq : q2.i 52 = L.most - bs.length := by simpa using hvq
    have G2 : Agree 51 ρ q2 := g1.trans (g2.mono (by omega))
    rw [hvq, G2.i 3 (by omega), v3]
    refine ⟨fun hlt => out q2 _ 4 G2 ?_, fun hlt => ?_⟩
    · unfold appendR; rw [if_neg ho, if_neg hs, if_pos hlt]
    rw [G2.i 0 (by omega), v0, dArg, Int.toNat_natCast, eB2 q2 G2, G2.h 49 (by omega), w49]
    refine ⟨⟨_, _, _, dp, sl, L, bs, rfl, rfl, hRd, hO.rd, hbs⟩, fun q3 g3 ⟨F, ⟨p', R1, R2, dp', sl', L', bs', hx, hR, hLx, hBx, hO3⟩, hF, hn3⟩ => ?_⟩
    have hx : Value.pointer (some ⟨a, 0, none⟩) = p' := by simpa using hx
    subst hx
    have hR : Hl.one a (lObj dp sl L) = R1 ∧ HB = R2 := by simpa using hR
    obtain ⟨rfl, rfl⟩ := hR
    obtain ⟨rfl, rfl, rfl⟩ := hRd.uniq hLx
    have e := hBx.uniq hO.rd
    subst e
    have hF := hF trivial
    subst hF
    obtain ⟨⟨n53, n54, n55, n56⟩, _⟩ := hn3
    have n54 : 0 ≤ q3.i 54 := n54
    have n55 : 0 ≤ q3.i 55 := n55
    obtain ⟨e55, _⟩ := hO3.rd.at n53 n54 n55
    have G3 : Agree 51 ρ q3 := G2.trans (g3.mono (by omega))
    rw [G3.i 1 (by omega), v1, G3.i 2 (by omega), v2, G3.i 3 (by omega), v3, G3.h 50 (by omega), w50, e55]
    rw [e55] at hO3
    have hO3' : OwnsH (q3.h 53) 5 1 (.slice (slP (q3.i 53) (q3.i 54)) ((bs'.length : Int)).toNat (q3.i 56).toNat) ((bs'.length : Int)).toNat (bys bs') := by
      unfold OwB at hO3
      rw [Int.toNat_natCast] at hO3 ⊢
      exact hO3
    have hsum : (bs'.length : Int) + b.length ≤ 1048576 := by omega
    refine ⟨⟨⟨_, hO3'⟩, by omega, ?_, by unfold maxLen; omega, by omega⟩, fun q4 g4 ⟨a1, a2, a3, _⟩ => ?_⟩
    · rcases hcell with hb | ⟨hx0, hcell⟩
      · subst hb; exact Or.inr rfl
      · refine Or.inl ⟨hx0, hy, by omega, fun j hj => ?_⟩
        have hj : j < b.length := by omega
        exact ⟨_, hcell j _ (List.getElem?_eq_getElem hj), rfl⟩
    have hseg : segVals R x.toNat y.toNat ((b.length : Int)).toNat = bys b := by
      rw [Int.toNat_natCast]
      unfold segVals
      apply List.ext_getElem?
      intro j
      rw [List.getElem?_map, bys_get]
      rcases Nat.lt_or_ge j b.length with hj | hj
      · rcases hcell with hb | ⟨hx0, hcell⟩
        · subst hb; cases hj
        · rw [List.getElem?_range hj, Option.map_some, hcell j _ (List.getElem?_eq_getElem hj), List.getElem?_eq_getElem hj]
          rfl
      · rw [List.getElem?_eq_none (by simpa using hj), List.getElem?_eq_none (by omega)]; rfl
    have hx4 := a3 _ hO3'
    rw [hseg] at hx4
    have G4 : Agree 51 ρ q4 := G3.trans (g4.mono (by omega))
    have x55 : q4.i 55 = bs'.length := by rw [g4.i 55 (by omega), e55]
    have hO4 : OwB (q4.h 57) 5 (.slice (slP (q4.i 57) 0) ((bs'.length : Int) + b.length).toNat (q4.i 58).toNat) (bs' ++ b) := by
      unfold OwB
      rw [bys_append, List.length_append]
      rw [show ((bs'.length : Int) + b.length).toNat = bs'.length + b.length by omega]
      rw [Int.toNat_natCast, Int.toNat_natCast] at hx4
      exact hx4
    rw [G4.i 0 (by omega), v0, dArg, Int.toNat_natCast, eB2 q4 G4, eN q4 G4, x55, G4.i 3 (by omega), v3, G4.h 48 (by omega), w48]
    refine ⟨⟨_, a, _, bs' ++ b, nt, _, _, HD, dp, sl, L, bs'.length, D, rfl, rfl, rfl, hIn, hslO, hbs, hO4, by rw [List.length_append]; omega, hnt, hD, hs0, by omega⟩, fun q5 g5 ⟨F, ⟨p', a', u', all', nt', H1, HA, HDx, dp', sl', L', n', D', H', HA', HD', hx, hH, hp, hLx, hsx', hOx, hDx, hHs, hDy, hvb, hok0, hbad⟩, _, _⟩ => ?_⟩
    have hx : Value.pointer (some ⟨a, 0, none⟩) = p' ∧ Value.slice (slP (q4.i 57) 0) ((bs'.length : Int) + b.length).toNat (q4.i 58).toNat = u' ∧ bys nt = bys nt' ∧ bev q4 E.tt = true := by simpa using hx
    obtain ⟨hx1, hx2, hx3, _⟩ := hx
    have hx3 := bys_inj hx3
    subst hx1 hx2 hx3
    have hH : Hl.one a (lObj dp sl L) = H1 ∧ q4.h 57 = HA ∧ HD = HDx := by simpa using hH
    obtain ⟨hH1, hH2, hH3⟩ := hH
    subst hH1 hH2 hH3
    have hp : a = a' := by simpa using hp
    subst hp
    obtain ⟨rfl, rfl, rfl⟩ := LogRd.uniq hRd ⟨a, rfl, hLx⟩
    have e := hsx'.uniq hslO
    subst e
    have e := hOx.rd.uniq hO4.rd
    subst e
    have e := hDx.uniq hD
    subst e
    have hHs : q5.h 59 = H' ∧ q5.h 60 = HA' ∧ q5.h 61 = HD' := by
      have h1 : [q5.h 59, q5.h 60, q5.h 61] = [H', HA', HD'] := hHs
      simpa using h1
    obtain ⟨h59, h60, h61⟩ := hHs
    have hvb : q5.i 59 = (becomeR D' L (bs' ++ b) nt bs'.length).1 := by simpa using hvb
    have G5 : Agree 51 ρ q5 := G4.trans (g5.mono (by omega))
    have e49 : q5.h 49 = HB := by rw [G5.h 49 (by omega), w49]
    intro hd
    by_cases hz : (becomeR D' L (bs' ++ b) nt bs'.length).1 = 0
    · have hr : appendR D' L bs' b nt = ⟨0, (becomeR D' L (bs' ++ b) nt bs'.length).2, grownL L (bs' ++ b) nt, bs' ++ b⟩ := by
        unfold appendR
        rw [if_neg ho, if_neg hs, if_neg hlt, if_pos hz]
      refine ⟨[[0], [1]], [], rfl, rfl, ⟨⟨fun _ => q5.i 59, fun _ => false, fun _ => .empty, fun _ => .tuple #[], fun _ => Hl.none⟩, rfl, trivial, trivial⟩, _, u, b, nt, H, HD, R, dp, L, bs', D', _, _, rfl, rfl, rfl, hAt, hD, hB, rfl, ?_, ?_, ?_⟩
      · show DiskAt (hls [q5.h 61]) _ _
        rw [hls_one, hr, h61]; exact hDy
      · show LogAt (hls [q5.h 59]) _ _ _ _
        rw [hls_one, hr, h59]; exact hok0 hz
      · show Value.int .i64 (q5.i 59) = _
        rw [hr, hvb, hz]
    · have h5 := (becomeR_code D' L (bs' ++ b) nt bs'.length).resolve_left hz
      have hr : appendR D' L bs' b nt = ⟨5, (becomeR D' L (bs' ++ b) nt bs'.length).2, overL L, bs'⟩ := by
        unfold appendR
        rw [if_neg ho, if_neg hs, if_neg hlt, if_neg hz]
      have hd02 : (q5.h 59).dis (q5.h 49) := hd 0 2 _ _ (by decide) rfl rfl rfl
      have hH' := hbad hz
      rw [h59, hH', e49] at hd02
      refine ⟨[[0, 2], [1]], [], rfl, rfl, ⟨⟨fun _ => q5.i 59, fun _ => false, fun _ => .empty, fun _ => .tuple #[], fun _ => Hl.none⟩, rfl, trivial, trivial⟩, _, u, b, nt, H, HD, R, dp, L, bs', D', _, _, rfl, rfl, rfl, hAt, hD, hB, rfl, ?_, ?_, ?_⟩
      · show DiskAt (hls [q5.h 61]) _ _
        rw [hls_one, hr, h61]; exact hDy
      · rw [hr]
        refine ⟨a, sl, HB, rfl, ⟨hok.frm, hok.most, hok.note⟩, hO, hd02, ?_⟩
        show hls [q5.h 59, q5.h 49] = _
        rw [h59, hH', e49]
      · show Value.int .i64 (q5.i 59) = _
        rw [hr, hvb, h5]
end Go.Proofs.YtomdimlnggpgbaaDoor.D
