/- Layer 8: bytes put behind a log's, as a contract. No condition. -/
import Derived.Test.YtomdimlnggpgbaaDoorChecked
import Derived.WalkKit
import Derived.LaidEql
import Derived.Stop.Asserts
import Derived.RowKitTokens
import Derived.Test.YtomdimlnggpgbaaDoorQd
set_option linter.unusedSimpArgs false
set_option linter.unusedVariables false
set_option linter.constructorNameAsVariable false
namespace Go.Proofs.YtomdimlnggpgbaaDoor.D
open Go Go.Sx
structure AR where
  e : Int
  D : DM
  L : LM
  bs : List Int
def appendR (D : DM) (L : LM) (bs b nt : List Int) : AR :=
  if L.over then ⟨5, D, L, bs⟩
  else if 4611686018427387904 ≤ L.serial then ⟨14, D, L, bs⟩
  else if L.most - bs.length < b.length then ⟨4, D, L, bs⟩
  else if (becomeR D L (bs ++ b) nt bs.length).1 = 0 then ⟨0, (becomeR D L (bs ++ b) nt bs.length).2, grownL L (bs ++ b) nt, bs ++ b⟩
  else ⟨5, (becomeR D L (bs ++ b) nt bs.length).2, overL L, bs⟩
theorem becomeR_code (D : DM) (L : LM) (all nt : List Int) (n : Nat) : (becomeR D L all nt n).1 = 0 ∨ (becomeR D L all nt n).1 = 5 := by
  unfold becomeR
  split
  · exact Or.inr rfl
  · split
    · exact Or.inr rfl
    · exact Or.inl rfl
def appendS : Sx.Spec where
  fn := 16
  own := [.arg 0, .link 0 0]
  rd := [1]
  res := [.one (.int .i64)]
  pre := fun xs Hs Rs => ∃ p u b nt H HD R dp L bs D, xs = [p, u, .agg (bys nt).toArray] ∧ Hs = [H, HD] ∧ Rs = [R] ∧ LogAt H p dp L bs ∧ DiskAt HD dp D ∧ RdW R u b ∧ bs.length ≤ 1048576 ∧ nt.length = 16 ∧ 0 ≤ L.serial
  post := fun xs Hs Rs v Hs' F => ∃ p u b nt H HD R dp L bs D H' HD', xs = [p, u, .agg (bys nt).toArray] ∧ Hs = [H, HD] ∧ Rs = [R] ∧ LogAt H p dp L bs ∧ DiskAt HD dp D ∧ RdW R u b ∧ Hs' = [H', HD'] ∧ DiskAt HD' dp (appendR D L bs b nt).D ∧ LogAt H' p dp (appendR D L bs b nt).L (appendR D L bs b nt).bs ∧ v = .int .i64 (appendR D L bs b nt).e
def appendNd : Nd := .ext (.alloc 51) (.and (.imp (.bvar 47) (.post [.blk 0 (ckCVs 21 ([Ck.ptr, Ck.int .i64, Ck.int .i64, Ck.int .u64, Ck.int .u64] ++ List.replicate 16 (Ck.int .u8) ++ [Ck.sl, Ck.bool])) 81, .hp 48 [] [.var 21] [], .hp 49 [] [.var 43] [], .ro 50 [.var 1] false, .dead] (.sv (.one (.int .i64 (.lit 5)))))) (.imp (.not (.bvar 47)) (.and (.imp (.le (.lit 4611686018427387904) (.var 25)) (.post [.blk 0 (ckCVs 21 ([Ck.ptr, Ck.int .i64, Ck.int .i64, Ck.int .u64, Ck.int .u64] ++ List.replicate 16 (Ck.int .u8) ++ [Ck.sl, Ck.bool])) 81, .hp 48 [] [.var 21] [], .hp 49 [] [.var 43] [], .ro 50 [.var 1] false, .dead] (.sv (.one (.int .i64 (.lit 14)))))) (.imp (.not (.le (.lit 4611686018427387904) (.var 25))) (.and (.e (.le (.lit 0) (.var 3))) (.and (.pre (.call 0 52 [.sv (.one (.hptr (.var 0) (.lit 0)))] [] [.blk 0 (ckCVs 21 ([Ck.ptr, Ck.int .i64, Ck.int .i64, Ck.int .u64, Ck.int .u64] ++ List.replicate 16 (Ck.int .u8) ++ [Ck.sl, Ck.bool])) 81])) (.ext (.call 0 52 [.sv (.one (.hptr (.var 0) (.lit 0)))] [] [.blk 0 (ckCVs 21 ([Ck.ptr, Ck.int .i64, Ck.int .i64, Ck.int .u64, Ck.int .u64] ++ List.replicate 16 (Ck.int .u8) ++ [Ck.sl, Ck.bool])) 81]) (.and (.imp (.lt (.var 52) (.var 3)) (.post [.blk 0 (ckCVs 21 ([Ck.ptr, Ck.int .i64, Ck.int .i64, Ck.int .u64, Ck.int .u64] ++ List.replicate 16 (Ck.int .u8) ++ [Ck.sl, Ck.bool])) 81, .hp 48 [] [.var 21] [], .hp 49 [] [.var 43] [], .ro 50 [.var 1] false, .dead] (.sv (.one (.int .i64 (.lit 4)))))) (.imp (.not (.lt (.var 52) (.var 3))) (.and (.pre (.call 1 53 [.sv (.one (.hptr (.var 0) (.lit 0)))] [] [.blk 0 (ckCVs 21 ([Ck.ptr, Ck.int .i64, Ck.int .i64, Ck.int .u64, Ck.int .u64] ++ List.replicate 16 (Ck.int .u8) ++ [Ck.sl, Ck.bool])) 81, .hp 49 [] [.var 43] []])) (.ext (.call 1 53 [.sv (.one (.hptr (.var 0) (.lit 0)))] [] [.blk 0 (ckCVs 21 ([Ck.ptr, Ck.int .i64, Ck.int .i64, Ck.int .u64, Ck.int .u64] ++ List.replicate 16 (Ck.int .u8) ++ [Ck.sl, Ck.bool])) 81, .hp 49 [] [.var 43] []]) (.and (.pre (.app 57 5 1 1 (.sl (.var 53) (.var 54) (.var 55) (.var 56)) (.var 55) (.hp 53 [] [.var 53] []) (.seg 50 (.var 1) (.var 2) (.var 3)))) (.ext (.app 57 5 1 1 (.sl (.var 53) (.var 54) (.var 55) (.var 56)) (.var 55) (.hp 53 [] [.var 53] []) (.seg 50 (.var 1) (.var 2) (.var 3))) (.and (.pre (.call 2 59 [.sv (.one (.hptr (.var 0) (.lit 0))), .sv (.one (.sl (.var 57) (.lit 0) (.add (.var 55) (.var 3)) (.var 58))), .sv (.agg (ckCVs 5 (List.replicate 16 (Ck.int .u8)))), .sv (.one (.bool .tt))] [.blk 0 (ckCVs 21 ([Ck.ptr, Ck.int .i64, Ck.int .i64, Ck.int .u64, Ck.int .u64] ++ List.replicate 16 (Ck.int .u8) ++ [Ck.sl, Ck.bool])) 81, .hp 57 [53] [.var 57, .var 53] [], .hp 48 [] [.var 21] []] [])) (.ext (.call 2 59 [.sv (.one (.hptr (.var 0) (.lit 0))), .sv (.one (.sl (.var 57) (.lit 0) (.add (.var 55) (.var 3)) (.var 58))), .sv (.agg (ckCVs 5 (List.replicate 16 (Ck.int .u8)))), .sv (.one (.bool .tt))] [.blk 0 (ckCVs 21 ([Ck.ptr, Ck.int .i64, Ck.int .i64, Ck.int .u64, Ck.int .u64] ++ List.replicate 16 (Ck.int .u8) ++ [Ck.sl, Ck.bool])) 81, .hp 57 [53] [.var 57, .var 53] [], .hp 48 [] [.var 21] []] []) (.post [.hp 59 [] [.var 0] [], .hp 61 [48] [.var 21] [], .hp 49 [] [.var 43] [], .ro 50 [.var 1] false, .dead, .hp 60 [57, 53] [.var 57, .var 53] []] (.sv (.one (.int .i64 (.var 59))))))))))))))))))))
def appendΓ : List Sx.Spec := [roomS, bytesS, becomeS]
theorem appendΓ_ok : ∀ t ∈ appendΓ, t.OK Tryd.prog := fun t ht => by
  simp only [appendΓ, List.mem_cons, List.mem_nil_iff, or_false] at ht
  rcases ht with rfl | rfl | rfl
  · exact roomS_ok
  · exact bytesS_ok
  · exact becomeS_ok
def appendW : Walk Tryd.prog appendΓ appendS.fn where
  Λ := noLoops
  args := [TP (.var 0) (.lit 0), .sv (.one (.sl (.var 1) (.var 2) (.var 3) (.var 4))), .sv (.agg (ckCVs 5 (u8s 16)))]
  mem := [.blk 0 (ckCVs 21 logK ++ [.sl (.var 43) (.var 44) (.var 45) (.var 46), .bool (.bvar 47)]) 81, .hp 48 [] [.var 21] [], .hp 49 [] [.var 43] [], .ro 50 [.var 1] false]
  nv := 51
  nd := appendNd
  ok := by kernel_rfl
theorem ag0 : appendΓ[0]? = some roomS := rfl
theorem ag1 : appendΓ[1]? = some bytesS := rfl
theorem ag2 : appendΓ[2]? = some becomeS := rfl
theorem ar0 : roomS.res = [.one (.int .i64)] := rfl
theorem ar1 : bytesS.res = [.one .sl] := rfl
theorem ar2 : becomeS.res = [.one (.int .i64)] := rfl
theorem ac1 : (cpRoots 0 [Cp.one .sl] ≠ []) = True := by simp [cpRoots, Cp.roots, Ck.root]
def appEnv (a : Nat) (x y : Int) (n c : Nat) (nt : List Int) (da : Nat) (L : LM) (sx : Int) (sn sc : Nat) (HD HB R : Hl) : Env :=
  ⟨fun k => if k < 5 then [(a : Int), x, y, n, c].getD k 0 else if k < 21 then nt.getD (k - 5) 0 else if k < 43 then (lInts da L).getD (k - 21) 0 else [sx, 0, (sn : Int), (sc : Int)].getD (k - 43) 0, fun _ => L.over, fun _ => .empty, fun _ => .tuple #[], fun k => if k = 48 then HD else if k = 49 then HB else R⟩
theorem appendS_ok : appendS.OK Tryd.prog := by
  refine spec_of_fn2 (Γ := appendΓ) appendΓ_ok ?_
  rintro xs Hs Rs hl1 hl2 hdis ⟨p, u, b, nt, H, HD, R, dp, L, bs, D, rfl, rfl, rfl, hAt, hD, hB, hbs, hnt, hs0⟩
  obtain ⟨a, sl, HB, rfl, hok, hO, hone, hH⟩ := id hAt
  obtain ⟨da, s, m, es, clock, hdp, hDi⟩ := id hD
  obtain ⟨x, y, c, hu, hy, hcell⟩ := id hB
  obtain ⟨sx, sc, hsx, hsl, hsc, _⟩ := OwB.rep hO
  generalize hρ : appEnv a x y b.length c nt da L sx bs.length sc HD HB R = ρ
  have v0 : ρ.i 0 = a := by rw [← hρ]; rfl
  have v1 : ρ.i 1 = x := by rw [← hρ]; rfl
  have v2 : ρ.i 2 = y := by rw [← hρ]; rfl
  have v3 : ρ.i 3 = b.length := by rw [← hρ]; rfl
  have v4 : ρ.i 4 = c := by rw [← hρ]; rfl
  have w48 : ρ.h 48 = HD := by rw [← hρ]; rfl
  have w49 : ρ.h 49 = HB := by rw [← hρ]; rfl
  have w50 : ρ.h 50 = R := by rw [← hρ]; rfl
  have b47 : ρ.b 47 = L.over := by rw [← hρ]; rfl
  have rk : ∀ k, k < 22 → ρ.i (21 + k) = (lInts da L).getD k 0 := fun k hk => by
    rw [← hρ]
    show (if 21 + k < 5 then _ else if 21 + k < 21 then _ else if 21 + k < 43 then (lInts da L).getD (21 + k - 21) 0 else _) = _
    rw [if_neg (by omega), if_neg (by omega), if_pos (by omega), show 21 + k - 21 = k by omega]
  have rn : ∀ k, k < 16 → ρ.i (5 + k) = nt.getD k 0 := fun k hk => by
    rw [← hρ]
    show (if 5 + k < 5 then _ else if 5 + k < 21 then nt.getD (5 + k - 5) 0 else _) = _
    rw [if_neg (by omega), if_pos (by omega), show 5 + k - 5 = k by omega]
  have lk : ∀ q : Env, Agree 51 ρ q → ∀ k, k < 22 → q.i (21 + k) = (lInts da L).getD k 0 := fun q g k hk => by rw [g.i _ (by omega)]; exact rk k hk
  have ls : ∀ q : Env, Agree 51 ρ q → CV.ev q (.sl (.var 43) (.var 44) (.var 45) (.var 46)) = sl := by
    intro q g
    simp only [CV.ev, iev_var, g.i 43 (by omega), g.i 44 (by omega), g.i 45 (by omega), g.i 46 (by omega)]
    rw [← hρ, hsl]
    show Value.slice (slP sx 0) ((bs.length : Int)).toNat ((sc : Int)).toNat = _
    rw [Int.toNat_natCast, Int.toNat_natCast]
  have eB : ∀ (q : Env), Agree 51 ρ q → (Res.blk 0 (ckCVs 21 logK ++ [.sl (.var 43) (.var 44) (.var 45) (.var 46), .bool (.bvar 47)]) 81).hl q = Hl.one a (lObj dp sl L) := by
    intro q g
    show Hl.one (q.i 0).toNat (.cells ((ckCVs 21 logK ++ [CV.sl (.var 43) (.var 44) (.var 45) (.var 46), .bool (.bvar 47)]).map (CV.ev q)).toArray _ (0, 0)) = _
    have e2 : CV.ev q (.bool (.bvar 47)) = .bool L.over := by
      show Value.bool (q.b 47) = _
      rw [g.b 47 (by omega), b47]
    rw [List.map_append, logK_ev hok (lk q g), g.i 0 (by omega), v0, List.map_cons, List.map_cons, List.map_nil, ls q g, e2, List.append_assoc, ← hdp, Int.toNat_natCast]
    rfl
  have hle1 : (Hl.one a (lObj dp sl L)).le H := by rw [hH]; exact Hl.un_left _ _
  have hle2 : HB.le H := by
    rw [hH]
    show HB.le ((Hl.one a (lObj dp sl L)).un (hls [HB]))
    rw [hls_one]; exact Hl.un_right hone
  have hHD : H.dis HD := hdis 0 1 _ _ (by decide) rfl rfl
  refine ⟨appendW, ρ, fun _ _ => True, fun _ _ => 0, ?_, ⟨?_, ?_, ?_, ?_⟩, (fun _ h => nomatch h), ?_⟩
  · show [Value.pointer (slP (ρ.i 0) 0), Value.slice (slP (ρ.i 1) (ρ.i 2)) (ρ.i 3).toNat (ρ.i 4).toNat, Value.agg ((ckCVs 5 (u8s 16)).map (CV.ev ρ)).toArray] = _
    unfold u8s
    rw [v0, v1, v2, v3, v4, dArg, Int.toNat_natCast, Int.toNat_natCast, ← hu, u8_ev 16 5 nt hnt rn]
  · intro r hr ho
    simp only [appendW, List.mem_cons, List.mem_nil_iff, or_false] at hr
    rcases hr with rfl | rfl | rfl | rfl
    · refine ⟨H, by simp, ?_⟩
      rw [eB ρ (Agree.refl _ _)]; exact hle1
    · refine ⟨HD, by simp, ?_⟩
      show (ρ.h 48).le HD
      rw [w48]; exact Hl.le_refl _
    · refine ⟨H, by simp, ?_⟩
      show (ρ.h 49).le H
      rw [w49]; exact hle2
    · cases ho
  · intro r hr ho
    simp only [appendW, List.mem_cons, List.mem_nil_iff, or_false] at hr
    rcases hr with rfl | rfl | rfl | rfl
    · cases ho
    · cases ho
    · cases ho
    · refine ⟨R, by simp, ?_⟩
      show (ρ.h 50).le R
      rw [w50]; exact Hl.le_refl _
  · have d1 : HD.dis HB := fun k ⟨h1, h2⟩ => hHD k ⟨Hl.le_mem hle2 h2, h1⟩
    refine List.Pairwise.cons (fun r hr _ ho => ?_) (List.Pairwise.cons (fun r hr _ ho => ?_) (List.Pairwise.cons (fun r hr _ ho => ?_) (List.Pairwise.cons (fun r hr => by cases hr) List.Pairwise.nil)))
    · simp only [List.mem_cons, List.mem_nil_iff, or_false] at hr
      rw [eB ρ (Agree.refl _ _)]
      rcases hr with rfl | rfl | rfl
      · show Hl.dis _ (ρ.h 48)
        rw [w48]
        exact fun k ⟨h1, h2⟩ => hHD k ⟨Hl.le_mem hle1 h1, h2⟩
      · show Hl.dis _ (ρ.h 49)
        rw [w49]; exact hone
      · cases ho
    · simp only [List.mem_cons, List.mem_nil_iff, or_false] at hr
      rcases hr with rfl | rfl
      · show (ρ.h 48).dis (ρ.h 49)
        rw [w48, w49]; exact d1
      · cases ho
    · rw [List.mem_singleton] at hr
      subst hr; cases ho
  · intro r hr
    simp only [appendW, List.mem_cons, List.mem_nil_iff, or_false] at hr
    rcases hr with rfl | rfl | rfl | rfl
    · show (0 : Int) ≤ ρ.i 0
      rw [v0]; omega
    · trivial
    · trivial
    · trivial
  · show Nd.holds _ _ _ appendNd
    have eB2 : ∀ q : Env, Agree 51 ρ q → Hl.one a (Obj.cells (List.map (CV.ev q) (ckCVs 21 ([Ck.ptr, Ck.int IntKind.i64, Ck.int IntKind.i64, Ck.int IntKind.u64, Ck.int IntKind.u64] ++ List.replicate 16 (Ck.int IntKind.u8) ++ [Ck.sl, Ck.bool]))).toArray 81 (0, 0)) = Hl.one a (lObj dp sl L) := by
      intro q g
      have h : Hl.one (q.i 0).toNat (Obj.cells (List.map (CV.ev q) (ckCVs 21 ([Ck.ptr, Ck.int IntKind.i64, Ck.int IntKind.i64, Ck.int IntKind.u64, Ck.int IntKind.u64] ++ List.replicate 16 (Ck.int IntKind.u8) ++ [Ck.sl, Ck.bool]))).toArray 81 (0, 0)) = Hl.one a (lObj dp sl L) := eB q g
      rw [g.i 0 (by omega), v0, Int.toNat_natCast] at h
      exact h
    have eN : ∀ q : Env, Agree 51 ρ q → (ckCVs 5 (List.replicate 16 (Ck.int IntKind.u8))).map (CV.ev q) = bys nt := fun q g => u8_ev 16 5 nt hnt fun k hk => by rw [g.i _ (by omega)]; exact rn k hk
    have i25 : ∀ q : Env, Agree 51 ρ q → q.i 25 = L.serial := fun q g => lk q g 4 (by omega)
    have hIn : LogIn (Hl.one a (lObj dp sl L)) a dp sl L := ⟨hok, Hl.one_self _ _⟩
    have hRd : LogRd (Hl.one a (lObj dp sl L)) (.pointer (some ⟨a, 0, none⟩)) dp sl L := ⟨a, rfl, hIn⟩
    have hslO : slOf sl bs.length := OwB.slOf hO
    obtain ⟨m0, m1⟩ := hok.most
    have out : ∀ (q : Env) (t : Mem) (e : Int), Agree 51 ρ q → appendR D L bs b nt = ⟨e, D, L, bs⟩ →
        postOf appendS [.pointer (some ⟨a, 0, none⟩), u, .agg (bys nt).toArray] [H, HD] [R] q (.blk 0 (ckCVs 21 ([Ck.ptr, Ck.int IntKind.i64, Ck.int IntKind.i64, Ck.int IntKind.u64, Ck.int IntKind.u64] ++ List.replicate 16 (Ck.int IntKind.u8) ++ [Ck.sl, Ck.bool])) 81 :: .hp 48 [] [.var 21] [] :: .hp 49 [] [.var 43] [] :: t) (.sv (.one (.int .i64 (.lit e)))) := by
      intro q t e hq hr _
      refine ⟨[[0, 2], [1]], [], rfl, rfl, ⟨⟨fun _ => e, fun _ => false, fun _ => .empty, fun _ => .tuple #[], fun _ => Hl.none⟩, rfl, trivial, trivial⟩, _, u, b, nt, H, HD, R, dp, L, bs, D, _, _, rfl, rfl, rfl, hAt, hD, hB, rfl, ?_, ?_, ?_⟩
      · show DiskAt (hls [q.h 48]) _ _
        rw [hls_one, hr, hq.h 48 (by omega), w48]; exact hD
      · rw [hr]
        refine ⟨a, sl, HB, rfl, hok, hO, hone, ?_⟩
        have e49 : q.h 49 = HB := by rw [hq.h 49 (by omega), w49]
        rw [← e49]
        exact congrArg (fun z => hls [z, q.h 49]) (eB q hq)
      · rw [hr]; rfl
    unfold appendNd
    simp only [Nd.holds, X.pre, X.rel, X.n, Src.ok, Src.len, Src.vals, true_and, and_true, if_true, Nat.mul_one, Nat.add_zero, Nat.reduceAdd, List.length_cons, List.length_nil, bT_tt, bT_ff, bT_bvar, bT_not, bT_and, bT_or, bT_ite, bT_lt, bT_le, bT_eq, bT_beq, bT_seq, bT_hB, bT_his, bT_hby, bT_hism, bT_hks, iev_lit, iev_var, iev_add, iev_sub, iev_mul, iev_wrap, iev_ite, iev_hI, iev_hP, iev_hmlen, sev_ite, sev_slit, sev_sof, sev_svar, TV.ev, SV.ev, CV.ev, List.map_cons, List.map_nil, Res.hl, cpTV, Cp.sv, Ck.cv, cpSVs, Cp.len, Ck.len, newHs_zero, newHs_one, roots_ne, ag0, ag1, ag2, ar0, ar1, ar2, ac1]
    intro q1 g1 _
    rw [g1.b 47 (by omega), b47, i25 q1 g1, g1.i 3 (by omega), v3, g1.i 0 (by omega), v0, dArg, Int.toNat_natCast, eB2 q1 g1]
    refine ⟨fun ho => out q1 _ 5 g1 ?_, fun ho => ⟨fun hs => out q1 _ 14 g1 ?_, fun hs => ⟨by omega, ⟨_, _, dp, sl, L, bs.length, rfl, rfl, hRd, hslO, hbs⟩, fun q2 g2 ⟨F, ⟨p', R', dp', sl', L', n', hx, hR, hLx, hsx', hvq⟩, _, _⟩ => ?_⟩⟩⟩
    · unfold appendR; rw [if_pos ho]
    · unfold appendR; rw [if_neg ho, if_pos hs]
    have hx : Value.pointer (some ⟨a, 0, none⟩) = p' := by simpa using hx
    subst hx
    have hR : Hl.one a (lObj dp sl L) = R' := by simpa using hR
    subst hR
    obtain ⟨rfl, rfl, rfl⟩ := hRd.uniq hLx
    have e := hsx'.uniq hslO
    subst e
    have hvq : q2.i 52 = L.most - bs.length := by simpa using hvq
    have G2 : Agree 51 ρ q2 := g1.trans (g2.mono (by omega))
    rw [hvq, G2.i 3 (by omega), v3]
    refine ⟨fun hlt => out q2 _ 4 G2 ?_, fun hlt => ?_⟩
    · unfold appendR; rw [if_neg ho, if_neg hs, if_pos hlt]
    rw [G2.i 0 (by omega), v0, dArg, Int.toNat_natCast, eB2 q2 G2, G2.h 49 (by omega), w49]
    refine ⟨⟨_, _, _, dp, sl, L, bs, rfl, rfl, hRd, hO.rd, hbs⟩, fun q3 g3 ⟨F, ⟨p', R1, R2, dp', sl', L', bs', hx, hR, hLx, hBx, hO3⟩, hF, hn3⟩ => ?_⟩
    have hx : Value.pointer (some ⟨a, 0, none⟩) = p' := by simpa using hx
    subst hx
    have hR : Hl.one a (lObj dp sl L) = R1 ∧ HB = R2 := by simpa using hR
    obtain ⟨rfl, rfl⟩ := hR
    obtain ⟨rfl, rfl, rfl⟩ := hRd.uniq hLx
    have e := hBx.uniq hO.rd
    subst e
    have hF := hF trivial
    subst hF
    obtain ⟨⟨n53, n54, n55, n56⟩, _⟩ := hn3
    have n54 : 0 ≤ q3.i 54 := n54
    have n55 : 0 ≤ q3.i 55 := n55
    obtain ⟨e55, _⟩ := hO3.rd.at n53 n54 n55
    have G3 : Agree 51 ρ q3 := G2.trans (g3.mono (by omega))
    rw [G3.i 1 (by omega), v1, G3.i 2 (by omega), v2, G3.i 3 (by omega), v3, G3.h 50 (by omega), w50, e55]
    rw [e55] at hO3
    have hO3' : OwnsH (q3.h 53) 5 1 (.slice (slP (q3.i 53) (q3.i 54)) ((bs'.length : Int)).toNat (q3.i 56).toNat) ((bs'.length : Int)).toNat (bys bs') := by
      unfold OwB at hO3
      rw [Int.toNat_natCast] at hO3 ⊢
      exact hO3
    have hsum : (bs'.length : Int) + b.length ≤ 1048576 := by omega
    refine ⟨⟨⟨_, hO3'⟩, by omega, ?_, by unfold maxLen; omega, by omega⟩, fun q4 g4 ⟨a1, a2, a3, _⟩ => ?_⟩
    · rcases hcell with hb | ⟨hx0, hcell⟩
      · subst hb; exact Or.inr rfl
      · refine Or.inl ⟨hx0, hy, by omega, fun j hj => ?_⟩
        have hj : j < b.length := by omega
        exact ⟨_, hcell j _ (List.getElem?_eq_getElem hj), rfl⟩
    have hseg : segVals R x.toNat y.toNat ((b.length : Int)).toNat = bys b := by
      rw [Int.toNat_natCast]
      unfold segVals
      apply List.ext_getElem?
      intro j
      rw [List.getElem?_map, bys_get]
      rcases Nat.lt_or_ge j b.length with hj | hj
      · rcases hcell with hb | ⟨hx0, hcell⟩
        · subst hb; cases hj
        · rw [List.getElem?_range hj, Option.map_some, hcell j _ (List.getElem?_eq_getElem hj), List.getElem?_eq_getElem hj]
          rfl
      · rw [List.getElem?_eq_none (by simpa using hj), List.getElem?_eq_none (by omega)]; rfl
    have hx4 := a3 _ hO3'
    rw [hseg] at hx4
    have G4 : Agree 51 ρ q4 := G3.trans (g4.mono (by omega))
    have x55 : q4.i 55 = bs'.length := by rw [g4.i 55 (by omega), e55]
    have hO4 : OwB (q4.h 57) 5 (.slice (slP (q4.i 57) 0) ((bs'.length : Int) + b.length).toNat (q4.i 58).toNat) (bs' ++ b) := by
      unfold OwB
      rw [bys_append, List.length_append]
      rw [show ((bs'.length : Int) + b.length).toNat = bs'.length + b.length by omega]
      rw [Int.toNat_natCast, Int.toNat_natCast] at hx4
      exact hx4
    rw [G4.i 0 (by omega), v0, dArg, Int.toNat_natCast, eB2 q4 G4, eN q4 G4, x55, G4.i 3 (by omega), v3, G4.h 48 (by omega), w48]
    refine ⟨⟨_, a, _, bs' ++ b, nt, _, _, HD, dp, sl, L, bs'.length, D, rfl, rfl, rfl, hIn, hslO, hbs, hO4, by rw [List.length_append]; omega, hnt, hD, hs0, by omega⟩, fun q5 g5 ⟨F, ⟨p', a', u', all', nt', H1, HA, HDx, dp', sl', L', n', D', H', HA', HD', hx, hH, hp, hLx, hsx', hOx, hDx, hHs, hDy, hvb, hok0, hbad⟩, _, _⟩ => ?_⟩
    have hx : Value.pointer (some ⟨a, 0, none⟩) = p' ∧ Value.slice (slP (q4.i 57) 0) ((bs'.length : Int) + b.length).toNat (q4.i 58).toNat = u' ∧ bys nt = bys nt' ∧ bev q4 E.tt = true := by simpa using hx
    obtain ⟨hx1, hx2, hx3, _⟩ := hx
    have hx3 := bys_inj hx3
    subst hx1 hx2 hx3
    have hH : Hl.one a (lObj dp sl L) = H1 ∧ q4.h 57 = HA ∧ HD = HDx := by simpa using hH
    obtain ⟨hH1, hH2, hH3⟩ := hH
    subst hH1 hH2 hH3
    have hp : a = a' := by simpa using hp
    subst hp
    obtain ⟨rfl, rfl, rfl⟩ := LogRd.uniq hRd ⟨a, rfl, hLx⟩
    have e := hsx'.uniq hslO
    subst e
    have e := hOx.rd.uniq hO4.rd
    subst e
    have e := hDx.uniq hD
    subst e
    have hHs : q5.h 59 = H' ∧ q5.h 60 = HA' ∧ q5.h 61 = HD' := by
      have h1 : [q5.h 59, q5.h 60, q5.h 61] = [H', HA', HD'] := hHs
      simpa using h1
    obtain ⟨h59, h60, h61⟩ := hHs
    have hvb : q5.i 59 = (becomeR D' L (bs' ++ b) nt bs'.length).1 := by simpa using hvb
    have G5 : Agree 51 ρ q5 := G4.trans (g5.mono (by omega))
    have e49 : q5.h 49 = HB := by rw [G5.h 49 (by omega), w49]
    intro hd
    by_cases hz : (becomeR D' L (bs' ++ b) nt bs'.length).1 = 0
    · have hr : appendR D' L bs' b nt = ⟨0, (becomeR D' L (bs' ++ b) nt bs'.length).2, grownL L (bs' ++ b) nt, bs' ++ b⟩ := by
        unfold appendR
        rw [if_neg ho, if_neg hs, if_neg hlt, if_pos hz]
      refine ⟨[[0], [1]], [], rfl, rfl, ⟨⟨fun _ => q5.i 59, fun _ => false, fun _ => .empty, fun _ => .tuple #[], fun _ => Hl.none⟩, rfl, trivial, trivial⟩, _, u, b, nt, H, HD, R, dp, L, bs', D', _, _, rfl, rfl, rfl, hAt, hD, hB, rfl, ?_, ?_, ?_⟩
      · show DiskAt (hls [q5.h 61]) _ _
        rw [hls_one, hr, h61]; exact hDy
      · show LogAt (hls [q5.h 59]) _ _ _ _
        rw [hls_one, hr, h59]; exact hok0 hz
      · show Value.int .i64 (q5.i 59) = _
        rw [hr, hvb, hz]
    · have h5 := (becomeR_code D' L (bs' ++ b) nt bs'.length).resolve_left hz
      have hr : appendR D' L bs' b nt = ⟨5, (becomeR D' L (bs' ++ b) nt bs'.length).2, overL L, bs'⟩ := by
        unfold appendR
        rw [if_neg ho, if_neg hs, if_neg hlt, if_neg hz]
      have hd02 : (q5.h 59).dis (q5.h 49) := hd 0 2 _ _ (by decide) rfl rfl rfl
      have hH' := hbad hz
      rw [h59, hH', e49] at hd02
      refine ⟨[[0, 2], [1]], [], rfl, rfl, ⟨⟨fun _ => q5.i 59, fun _ => false, fun _ => .empty, fun _ => .tuple #[], fun _ => Hl.none⟩, rfl, trivial, trivial⟩, _, u, b, nt, H, HD, R, dp, L, bs', D', _, _, rfl, rfl, rfl, hAt, hD, hB, rfl, ?_, ?_, ?_⟩
      · show DiskAt (hls [q5.h 61]) _ _
        rw [hls_one, hr, h61]; exact hDy
      · rw [hr]
        refine ⟨a, sl, HB, rfl, ⟨hok.frm, hok.most, hok.note⟩, hO, hd02, ?_⟩
        show hls [q5.h 59, q5.h 49] = _
        rw [h59, hH', e49]
      · show Value.int .i64 (q5.i 59) = _
        rw [hr, hvb, h5]
end Go.Proofs.YtomdimlnggpgbaaDoor.D
namespace Go.Proofs.YtomdimlnggpgbaaDoor.D
open Go Go.Sx
structure Sure (D : DM) : Prop where
  ok : D.ok
  fuse : D.fuse = -1
  gone : D.gone = false
theorem putD_sure {D : DM} (h : Sure D) {i : Int} (hi : D.has i = true) {bs : List Int} (hb : bs.length = 64) : Sure (putD D i bs) := ⟨putD_ok h.ok hi hb, by show (if 0 < D.fuse then D.fuse - 1 else D.fuse) = -1; rw [h.fuse]; rfl, rfl⟩
theorem writeR_sure {D : DM} (h : Sure D) {i : Int} (hi : D.has i = true) {bs : List Int} (hb : bs.length = 64) : writeR D i bs = (0, putD D i bs) := by
  unfold writeR
  rw [if_neg (by rw [hi, hb]; simp), if_neg (by rw [h.gone]; simp), if_neg (by rw [h.fuse]; decide)]
theorem syncR_sure {D : DM} (h : Sure D) : (syncR D).1 = 0 ∧ Sure (syncR D).2 ∧ (syncR D).2.now = D.now ∧ (syncR D).2.n = D.n := by
  have e : syncR D = (0, ⟨D.n, D.now, [], if 0 < D.fuse then D.fuse - 1 else D.fuse, D.gone⟩) := by
    unfold syncR
    rw [if_neg (by rw [h.gone]; simp), if_neg (by rw [h.fuse]; decide)]
  rw [e]
  refine ⟨rfl, ⟨⟨h.ok.now, h.ok.n, ?_, ?_, fun p hp => by cases hp⟩, ?_, h.gone⟩, rfl, rfl⟩
  · show -1 ≤ (if 0 < D.fuse then D.fuse - 1 else D.fuse); rw [h.fuse]; decide
  · show (if 0 < D.fuse then D.fuse - 1 else D.fuse) ≤ _; rw [h.fuse]; decide
  · show (if 0 < D.fuse then D.fuse - 1 else D.fuse) = -1; rw [h.fuse]; rfl
theorem putD_get {D : DM} (h : D.ok) {i : Int} (hi : D.has i = true) {bs : List Int} (hb : bs.length = 64) (j : Nat) : (putD D i bs).now[j]? = if 64 * i.toNat ≤ j ∧ j < 64 * i.toNat + 64 then bs[j - 64 * i.toNat]? else D.now[j]? := by
  have hh : 0 ≤ i ∧ i < D.n := by unfold DM.has at hi; simpa using hi
  show (splice D.now (64 * i.toNat) bs)[j]? = _
  rw [Sx.splice_get (by rw [h.now, hb]; omega), hb]
theorem secA_length (all : List Int) (i : Nat) : (secA all i).length = 64 := by simp [secA]
theorem secA_get (all : List Int) (i j : Nat) (h : j < 64) (hj : 64 * i + j < all.length) : (secA all i)[j]? = all[64 * i + j]? := by
  unfold secA
  rw [List.getElem?_map, List.getElem?_range h, Option.map_some, List.getElem?_eq_getElem hj, Option.getD_some]
theorem fillGo_sure (frm : Nat) (all : List Int) : ∀ (f i : Nat) (D : DM), Sure D → all.length + 1 ≤ f + i → all.length + 64 * (frm + 2) ≤ 64 * D.n →
    (fillGo frm all f i D).1 = 0 ∧ Sure (fillGo frm all f i D).2 ∧ (fillGo frm all f i D).2.n = D.n ∧ (∀ j, j < 64 * (frm + 2 + i) → (fillGo frm all f i D).2.now[j]? = D.now[j]?) ∧ (∀ t, 64 * i ≤ t → t < all.length → (fillGo frm all f i D).2.now[64 * (frm + 2) + t]? = all[t]?) := by
  intro f
  induction f with
  | zero =>
    intro i D h h1 h2
    obtain ⟨a, b, c, d⟩ := syncR_sure h
    show (syncR D).1 = 0 ∧ _
    refine ⟨a, b, d, fun j _ => ?_, fun t ht ht' => by omega⟩
    show (syncR D).2.now[j]? = _
    rw [c]
  | succ f ih =>
    intro i D h h1 h2
    have ec : (frm : Int) + 2 + i = ((frm + 2 + i : Nat) : Int) := by omega
    by_cases hlt : 64 * i < all.length
    · have hi : D.has ((frm : Int) + 2 + i) = true := by unfold DM.has; simp only [decide_eq_true_eq]; omega
      have hw := writeR_sure h hi (secA_length all i)
      have e : fillGo frm all (f + 1) i D = fillGo frm all f (i + 1) (putD D ((frm : Int) + 2 + i) (secA all i)) := by
        show (if 64 * i < all.length then _ else _) = _
        rw [if_pos hlt, hw]; simp
      rw [e]
      have hS := putD_sure h hi (secA_length all i)
      obtain ⟨a, b, c, d, g⟩ := ih (i + 1) _ hS (by omega) h2
      have gp := putD_get h.ok hi (secA_length all i)
      refine ⟨a, b, c, fun j hj => ?_, fun t ht ht' => ?_⟩
      · rw [d j (by omega), gp, ec, Int.toNat_natCast, if_neg (by omega)]
      · rcases Nat.lt_or_ge t (64 * (i + 1)) with h3 | h3
        · rw [d _ (by omega), gp, ec, Int.toNat_natCast, if_pos (by omega), secA_get all i _ (by omega) (by omega)]
          congr 1; omega
        · exact g t h3 ht'
    · have e : fillGo frm all (f + 1) i D = syncR D := by
        show (if 64 * i < all.length then _ else _) = _
        rw [if_neg hlt]
      rw [e]
      obtain ⟨a, b, c, d⟩ := syncR_sure h
      exact ⟨a, b, d, fun j _ => by rw [c], fun t ht ht' => by omega⟩
structure Holds (D : DM) (frm : Nat) (n : Int) (k : Nat) (all nt : List Int) : Prop where
  sure : Sure D
  rng : 3 ≤ n ∧ (frm : Int) + n ≤ D.n
  len : (all.length : Int) ≤ 64 * (n - 2)
  note : nt.length = 16
  cur : lreadR D frm (64 * (n - 2)) ((k % 2 : Nat) : Int) = ((k : Int) :: (all.length : Int) :: nt, 0)
  oth : (lreadR D frm (64 * (n - 2)) (((k + 1) % 2 : Nat) : Int)).1.getD 0 0 < k ∨ (k = 0 ∧ (lreadR D frm (64 * (n - 2)) 1).1.getD 0 0 = 0)
  bytes : ∀ t z, all[t]? = some z → D.now[64 * (frm + 2) + t]? = some z
theorem Holds.openE {D : DM} {frm : Nat} {n : Int} {k : Nat} {all nt : List Int} (h : Holds D frm n k all nt) : openE D frm n = 0 := by
  obtain ⟨h1, h2⟩ := h.rng
  unfold Go.Proofs.YtomdimlnggpgbaaDoor.D.openE
  rw [if_neg (by omega), h.sure.gone]; rfl
theorem Holds.openH {D : DM} {frm : Nat} {n : Int} {k : Nat} {all nt : List Int} (h : Holds D frm n k all nt) : openH D frm n = (k : Int) :: (all.length : Int) :: nt := by
  have hc := h.cur
  have ho := h.oth
  unfold Go.Proofs.YtomdimlnggpgbaaDoor.D.openH
  rcases Nat.mod_two_eq_zero_or_one k with e | e
  · have e' : (k + 1) % 2 = 1 := by omega
    rw [e] at hc
    rw [e'] at ho
    have hc : lreadR D frm (64 * (n - 2)) 0 = _ := hc
    rw [hc]
    show (if (k : Int) < _ then _ else _) = _
    rw [if_neg]
    rcases ho with ho | ⟨hk, ho⟩
    · have ho : (lreadR D frm (64 * (n - 2)) 1).1.getD 0 0 < k := ho
      omega
    · rw [ho]; omega
  · have e' : (k + 1) % 2 = 0 := by omega
    rw [e] at hc
    rw [e'] at ho
    have hc : lreadR D frm (64 * (n - 2)) 1 = _ := hc
    rw [hc]
    show (if _ < (k : Int) then _ else _) = _
    rw [if_pos]
    rcases ho with ho | ⟨hk, ho⟩
    · exact ho
    · omega
theorem Holds.openL {D : DM} {frm : Nat} {n : Int} {k : Nat} {all nt : List Int} (h : Holds D frm n k all nt) : openL D frm n = ⟨frm, 64 * (n - 2), k, all.length, nt, false⟩ := by
  unfold Go.Proofs.YtomdimlnggpgbaaDoor.D.openL headL
  rw [h.openH]; rfl
theorem Holds.openB {D : DM} {frm : Nat} {n : Int} {k : Nat} {all nt : List Int} (h : Holds D frm n k all nt) : openB D frm n = all := by
  obtain ⟨h1, h2⟩ := h.rng
  have hl := h.len
  unfold Go.Proofs.YtomdimlnggpgbaaDoor.D.openB bytesAt
  rw [h.openL]
  show (D.now.drop (64 * ((frm : Int) + 2).toNat)).take ((all.length : Int)).toNat = all
  rw [show ((frm : Int) + 2).toNat = frm + 2 by omega, Int.toNat_natCast]
  apply List.ext_getElem?
  intro j
  rw [List.getElem?_take]
  split
  · rename_i hj
    rw [List.getElem?_drop, h.bytes j _ (List.getElem?_eq_getElem hj), List.getElem?_eq_getElem hj]
  · rw [List.getElem?_eq_none (by omega)]
theorem lread_sector {D : DM} (h : Sure D) {frm most place : Int} (hi : D.has (frm + place) = true) : lreadR D frm most place = if goodH (D.sector (frm + place)) most place then (headI ((D.sector (frm + place)).take 32), 0) else (zeros18, 0) := by
  unfold lreadR
  rw [readR_in hi h.gone]
  simp
theorem lread_same {D D' : DM} (h : Sure D) (h' : Sure D') (hn : D'.n = D.n) {frm most place : Int} (hi : D.has (frm + place) = true) (hs : D'.sector (frm + place) = D.sector (frm + place)) : lreadR D' frm most place = lreadR D frm most place := by
  have hi' : D'.has (frm + place) = true := by unfold DM.has at hi ⊢; rw [hn]; exact hi
  rw [lread_sector h hi, lread_sector h' hi', hs]
theorem sector_same {D D' : DM} {i : Int} (h : ∀ j, 64 * i.toNat ≤ j → j < 64 * i.toNat + 64 → D'.now[j]? = D.now[j]?) : D'.sector i = D.sector i := by
  unfold DM.sector
  apply List.ext_getElem?
  intro j
  rw [List.getElem?_take, List.getElem?_take]
  split
  · rw [List.getElem?_drop, List.getElem?_drop]
    exact h _ (by omega) (by omega)
  · rfl
theorem be8_length (x : Int) : (be8 x).length = 8 := rfl
theorem half_head {a b : Int} {nt : List Int} (ha : 0 ≤ a ∧ a < 18446744073709551616) (hb : 0 ≤ b ∧ b < 18446744073709551616) (hn : nt.length = 16) :
    (halfL (a :: b :: nt)).length = 32 ∧ headI (halfL (a :: b :: nt)) = a :: b :: nt ∧ bigI ((halfL (a :: b :: nt)).take 8) = a ∧ bigI (((halfL (a :: b :: nt)).drop 8).take 8) = b := by
  have e : halfL (a :: b :: nt) = be8 a ++ be8 b ++ nt := by
    unfold halfL
    show be8 a ++ be8 b ++ nt.take 16 = _
    rw [List.take_of_length_le (by omega)]
  have h1 : ((be8 a ++ be8 b ++ nt).take 8) = be8 a := by rw [List.append_assoc, List.take_append_of_le_length (by rw [be8_length]; omega), List.take_of_length_le (by rw [be8_length]; omega)]
  have h2 : ((be8 a ++ be8 b ++ nt).drop 8) = be8 b ++ nt := by rw [List.append_assoc, List.drop_left' (be8_length a)]
  have h3 : (((be8 a ++ be8 b ++ nt).drop 8).take 8) = be8 b := by rw [h2, List.take_append_of_le_length (by rw [be8_length]; omega), List.take_of_length_le (by rw [be8_length]; omega)]
  have h4 : ((be8 a ++ be8 b ++ nt).drop 16).take 16 = nt := by
    rw [List.drop_left' (by rw [List.length_append, be8_length, be8_length]), List.take_of_length_le (by omega)]
  rw [e]
  refine ⟨by simp [be8_length, hn], ?_, ?_, ?_⟩
  · unfold headI
    rw [h1, h3, h4, big_be8 ha.1 ha.2, big_be8 hb.1 hb.2]; rfl
  · rw [h1, big_be8 ha.1 ha.2]
  · rw [h3, big_be8 hb.1 hb.2]
theorem Holds.append {D : DM} {frm : Nat} {n : Int} {k : Nat} {all nt : List Int} (h : Holds D frm n k all nt) {b nt' : List Int} (hb : (all.length : Int) + b.length ≤ 64 * (n - 2)) (hk : k < 1000000) (hn' : nt'.length = 16) :
    (appendR D ⟨frm, 64 * (n - 2), k, all.length, nt, false⟩ all b nt').e = 0 ∧ Holds (appendR D ⟨frm, 64 * (n - 2), k, all.length, nt, false⟩ all b nt').D frm n (k + 1) (all ++ b) nt' ∧
    (appendR D ⟨frm, 64 * (n - 2), k, all.length, nt, false⟩ all b nt').bs = all ++ b ∧ (appendR D ⟨frm, 64 * (n - 2), k, all.length, nt, false⟩ all b nt').L = ⟨frm, 64 * (n - 2), (k + 1 : Nat), (all ++ b).length, nt', false⟩ := by
  obtain ⟨r1, r2⟩ := h.rng
  have hDn := h.sure.ok.n
  have hal : (all ++ b).length = all.length + b.length := List.length_append
  obtain ⟨L, hL⟩ : ∃ L : LM, L = ⟨frm, 64 * (n - 2), k, all.length, nt, false⟩ := ⟨_, rfl⟩
  rw [← hL]
  have f1 : L.frm = frm := by rw [hL]
  have f2 : L.most = 64 * (n - 2) := by rw [hL]
  have f3 : L.serial = k := by rw [hL]
  have f4 : L.over = false := by rw [hL]
  obtain ⟨F, hF⟩ : ∃ F, F = (fillR D L.frm (all ++ b) all.length).2 := ⟨_, rfl⟩
  obtain ⟨a1, a2, a3, a4, a5⟩ := fillGo_sure frm (all ++ b) ((all ++ b).length + 1) (all.length / 64) D h.sure (by omega) (by omega)
  have efr : fillR D L.frm (all ++ b) all.length = fillGo frm (all ++ b) ((all ++ b).length + 1) (all.length / 64) D := by
    unfold fillR
    rw [f1, show (((all.length : Nat) : Int) / 64).toNat = all.length / 64 by omega]
  rw [← efr] at a1 a2 a3 a4 a5
  rw [← hF] at a2 a3 a4 a5
  obtain ⟨N, hN⟩ : ∃ N, N = newH L (all ++ b) nt' := ⟨_, rfl⟩
  have eN : N = ((k + 1 : Nat) : Int) :: ((all ++ b).length : Int) :: nt' := by
    rw [hN]; unfold newH; rw [f3]; rfl
  have hp : ((k + 1 : Nat) : Int).tmod 2 = (((k + 1) % 2 : Nat) : Int) := by
    rw [Int.tmod_eq_emod_of_nonneg (by omega)]; omega
  obtain ⟨p, hpp⟩ : ∃ p, p = (k + 1) % 2 := ⟨_, rfl⟩
  have hp2 : p < 2 := by omega
  obtain ⟨b1, b2, b3, b4⟩ := half_head (a := ((k + 1 : Nat) : Int)) (b := ((all ++ b).length : Int)) (nt := nt') ⟨by omega, by omega⟩ ⟨by omega, by omega⟩ hn'
  rw [← eN] at b1 b2 b3 b4
  have hhl : (halfL N ++ halfL N).length = 64 := by rw [List.length_append, b1]
  have ei : ∀ q : Nat, (frm : Int) + ((q : Nat) : Int) = ((frm + q : Nat) : Int) := fun q => by omega
  have hasF : ∀ q : Nat, q < 2 → F.has ((frm : Int) + (q : Int)) = true := fun q hq => by unfold DM.has; rw [a3]; simp only [decide_eq_true_eq]; omega
  have hasD : ∀ q : Nat, q < 2 → D.has ((frm : Int) + (q : Int)) = true := fun q hq => by unfold DM.has; simp only [decide_eq_true_eq]; omega
  have hw := writeR_sure a2 (hasF p hp2) hhl
  obtain ⟨G, hG⟩ : ∃ G, G = putD F ((frm : Int) + (p : Int)) (halfL N ++ halfL N) := ⟨_, rfl⟩
  rw [← hG] at hw
  have hGs : Sure G := by rw [hG]; exact putD_sure a2 (hasF p hp2) hhl
  have hGn : G.n = D.n := by rw [hG, ← a3]; rfl
  have hGg := putD_get a2.ok (hasF p hp2) hhl
  rw [← hG, ei p, Int.toNat_natCast] at hGg
  obtain ⟨s1, s2, s3, s4⟩ := syncR_sure hGs
  have htn : turnR F L.frm N = syncR G := by
    unfold turnR
    have e0 : N.getD 0 0 = ((k + 1 : Nat) : Int) := by rw [eN]; rfl
    rw [f1, e0, hp, ← hpp, hw]; simp
  have hbec : becomeR D L (all ++ b) nt' all.length = (0, (syncR G).2) := by
    unfold becomeR
    rw [if_neg (by rw [a1]; simp), ← hF, ← hN, htn, if_neg (by rw [s1]; simp)]
  have happ : appendR D L all b nt' = ⟨0, (syncR G).2, grownL L (all ++ b) nt', all ++ b⟩ := by
    unfold appendR
    rw [f4, f3, f2, if_neg (by simp), if_neg (by omega), if_neg (by omega), hbec]; rfl
  rw [happ]
  refine ⟨rfl, ⟨s2, ⟨r1, by show (frm : Int) + n ≤ ((syncR G).2.n : Int); rw [s4, hGn]; exact r2⟩, by rw [hal]; omega, hn', ?_, Or.inl ?_, ?_⟩, rfl, by unfold grownL; rw [f1, f2, f3, f4]; rfl⟩
  · rw [← hpp]
    have hi : (syncR G).2.has ((frm : Int) + (p : Int)) = true := by unfold DM.has; rw [s4, hGn]; exact hasD p hp2
    have hsec : (syncR G).2.sector ((frm : Int) + (p : Int)) = halfL N ++ halfL N := by
      unfold DM.sector
      rw [s3, ei p, Int.toNat_natCast]
      apply List.ext_getElem?
      intro j
      rw [List.getElem?_take]
      split
      · rename_i hj
        rw [List.getElem?_drop, hGg, if_pos (by omega)]
        congr 1; omega
      · rw [List.getElem?_eq_none (by omega)]
    show lreadR (syncR G).2 frm (64 * (n - 2)) (p : Int) = _
    rw [lread_sector s2 hi, hsec]
    have ht : (halfL N ++ halfL N).take 32 = halfL N := by rw [List.take_left' b1]
    have hdr : (halfL N ++ halfL N).drop 32 = halfL N := by rw [List.drop_left' b1]
    rw [if_pos, ht, b2, eN]
    unfold goodH
    rw [ht, hdr, b3, b4]
    exact ⟨rfl, by rw [hp, hpp], by omega⟩
  · have hq : (k + 1 + 1) % 2 = k % 2 := by omega
    rw [hq]
    obtain ⟨c, hc⟩ : ∃ c, c = k % 2 := ⟨_, rfl⟩
    have hcur := h.cur
    rw [← hc] at hcur ⊢
    have hc2 : c < 2 := by omega
    have hcp : c ≠ p := by omega
    have hsec : (syncR G).2.sector ((frm : Int) + (c : Int)) = D.sector ((frm : Int) + (c : Int)) := by
      refine sector_same fun j h1 h2 => ?_
      rw [ei c, Int.toNat_natCast] at h1 h2
      rw [s3, hGg, if_neg (by omega)]
      exact a4 j (by omega)
    rw [lread_same h.sure s2 (by rw [s4, hGn]) (hasD c hc2) hsec, hcur]
    show (k : Int) < ((k + 1 : Nat) : Int)
    omega
  · intro t z ht
    have hlt := (List.getElem?_eq_some_iff.1 ht).1
    show (syncR G).2.now[64 * (frm + 2) + t]? = some z
    rw [s3, hGg, if_neg (by omega)]
    rcases Nat.lt_or_ge t (64 * (all.length / 64)) with h1 | h1
    · rw [a4 _ (by omega)]
      refine h.bytes t z ?_
      rw [List.getElem?_append_left (by omega)] at ht
      exact ht
    · rw [a5 t h1 hlt]; exact ht
theorem newD_sure (n : Int) : Sure (newD n) := by
  refine ⟨⟨?_, ?_, ?_, ?_, fun p hp => by cases hp⟩, rfl, rfl⟩
  · show (List.replicate (64 * sects n) (0 : Int)).length = 64 * sects n
    rw [List.length_replicate]
  · show sects n ≤ 16384
    unfold sects; omega
  · exact Int.le_refl (-1)
  · show (-1 : Int) ≤ _; omega
theorem newD_holds {m n : Int} {frm : Nat} (hm : 0 ≤ m ∧ m ≤ 16384) (hn : 3 ≤ n) (hr : (frm : Int) + n ≤ m) : Holds (newD m) frm n 0 [] (List.replicate 16 0) := by
  have hs : sects m = m.toNat := by unfold sects; omega
  have hnn : (newD m).n = m.toNat := hs
  have hS := newD_sure m
  have hsec : ∀ p : Nat, p < 2 → (newD m).sector ((frm : Int) + (p : Int)) = List.replicate 64 0 := by
    intro p hp
    unfold DM.sector
    show ((List.replicate (64 * sects m) (0 : Int)).drop _).take 64 = _
    rw [List.drop_replicate, List.take_replicate, hs]
    congr 1; omega
  have hz : bigI (List.replicate 8 0) = 0 := by decide
  have hrd : ∀ p : Nat, p < 2 → lreadR (newD m) frm (64 * (n - 2)) (p : Int) = (zeros18, 0) := by
    intro p hp
    have hi : (newD m).has ((frm : Int) + (p : Int)) = true := by unfold DM.has; rw [hnn]; simp only [decide_eq_true_eq]; omega
    rw [lread_sector hS hi, hsec p hp]
    split
    · rfl
    · rfl
  refine ⟨hS, ⟨hn, by rw [hnn]; omega⟩, by show (0 : Int) ≤ _; omega, rfl, ?_, Or.inr ⟨rfl, ?_⟩, fun t z h => by cases h⟩
  · exact hrd 0 (by omega)
  · have := hrd 1 (by omega)
    have this : lreadR (newD m) frm (64 * (n - 2)) 1 = (zeros18, 0) := this
    rw [this]; rfl
end Go.Proofs.YtomdimlnggpgbaaDoor.D
namespace Go.Proofs.YtomdimlnggpgbaaDoor
open Go Go.Sx Go.Pk
open Go.Proofs.YtomdimlnggpgbaaDoor.D hiding envI noLoops numS
def cloneSS : Sx.Spec where
  fn := 38
  own := []
  rd := [0]
  res := [.one .sl]
  pre := fun xs Hs Rs => ∃ u bs R, xs = [u] ∧ Rs = [R] ∧ RdW R u bs ∧ bs.length ≤ 1000000
  post := fun xs Hs Rs v Hs' F => ∃ u bs R, xs = [u] ∧ Rs = [R] ∧ RdW R u bs ∧ OwB F 5 v bs
def cloneSNd : Nd := .and (.imp (.eq (.var 0) (.lit (-1))) (.post [.ro 4 [.var 0] false] (.sv (.one (.sl (.lit (-1)) (.lit 0) (.lit 0) (.lit 0)))))) (.imp (.not (.eq (.var 0) (.lit (-1)))) (.ext (.alloc 5) (.and (.pre (.app 6 5 1 1 (.sl (.var 5) (.lit 0) (.lit 0) (.lit 0)) (.lit 0) (.blk 5 [] 5) (.seg 4 (.var 0) (.var 1) (.var 2)))) (.ext (.app 6 5 1 1 (.sl (.var 5) (.lit 0) (.lit 0) (.lit 0)) (.lit 0) (.blk 5 [] 5) (.seg 4 (.var 0) (.var 1) (.var 2))) (.post [.ro 4 [.var 0] false, .hp 6 [] [.var 6, .var 5] []] (.sv (.one (.sl (.var 6) (.lit 0) (.var 2) (.var 7)))))))))
def cloneSW : Walk Tryd.prog [] cloneSS.fn where
  Λ := noLoops
  args := [.sv (.one (.sl (.var 0) (.var 1) (.var 2) (.var 3)))]
  mem := [.ro 4 [.var 0] false]
  nv := 5
  nd := cloneSNd
  ok := by kernel_rfl
theorem cloneSS_ok : cloneSS.OK Tryd.prog := by
  refine Spec.of_fn (Γ := []) (fun _ h => by cases h) ?_
  rintro xs Hs Rs hl1 hl2 ⟨u, bs, R, rfl, rfl, hRd, hlen⟩
  have e0 : Hs = [] := List.length_eq_zero_iff.1 hl1
  subst e0
  obtain ⟨x, y, c, rfl, hy, hR⟩ := id hRd
  refine ⟨cloneSW, envI [x, y, bs.length, c] false [Hl.none, Hl.none, Hl.none, Hl.none, R], fun _ _ => True, fun _ _ => 0, ?_, ⟨?_, ?_, ?_, ?_⟩, (fun _ h => nomatch h), ?_⟩
  · show [Value.slice (slP x y) ((bs.length : Int)).toNat ((c : Int)).toNat] = _
    rw [Int.toNat_natCast, Int.toNat_natCast]
  · intro r hr ho; simp [cloneSW] at hr; subst hr; cases ho
  · intro r hr ho; simp [cloneSW] at hr; subst hr; exact ⟨R, by simp, Hl.le_refl _⟩
  · simp [cloneSW]
  · intro r hr; simp [cloneSW] at hr; subst hr; trivial
  · show Nd.holds _ _ _ cloneSNd
    generalize hρ : envI [x, y, bs.length, c] false [Hl.none, Hl.none, Hl.none, Hl.none, R] = ρ
    have v0 : ρ.i 0 = x := by rw [← hρ]; rfl
    have v1 : ρ.i 1 = y := by rw [← hρ]; rfl
    have v2 : ρ.i 2 = bs.length := by rw [← hρ]; rfl
    have w4 : ρ.h 4 = R := by rw [← hρ]; rfl
    clear hρ
    unfold cloneSNd
    simp only [Nd.holds, X.pre, X.rel, X.n, Src.ok, Src.len, Src.vals, true_and, and_true, if_true, Nat.mul_one, Nat.add_zero, Nat.reduceAdd, List.length_cons, List.length_nil, bT_tt, bT_ff, bT_bvar, bT_not, bT_and, bT_or, bT_ite, bT_lt, bT_le, bT_eq, bT_beq, bT_seq, bT_hB, bT_his, bT_hby, bT_hism, bT_hks, iev_lit, iev_var, iev_add, iev_sub, iev_mul, iev_wrap, iev_ite, iev_hI, iev_hP, iev_hmlen, sev_ite, sev_slit, sev_sof, sev_svar, TV.ev, SV.ev, CV.ev, List.map_cons, List.map_nil, Res.hl]
    refine ⟨fun hx _ => ?_, fun hx q1 g1 p5 => ?_⟩
    · have hnil : bs = [] := by
        rcases hR with h | ⟨h, _⟩
        · exact h
        · omega
      refine ⟨[], [], rfl, rfl, ⟨⟨fun k => if k = 0 then -1 else 0, fun _ => false, fun _ => .empty, fun _ => .tuple #[], fun _ => Hl.none⟩, rfl, ⟨Int.le_refl _, Int.le_refl _, Int.le_refl _, Int.le_refl _⟩, trivial⟩, _, bs, R, rfl, rfl, hRd, ?_⟩
      rw [hnil]
      exact ⟨rfl, Or.inl ⟨rfl, rfl⟩⟩
    · obtain ⟨hok, hseg⟩ := seg_of (R := R) (x := x) (y := y) (l := (bs.length : Int)) rfl hy hR
      have ho0 := own0 (Hl.one (q1.i 5).toNat (.cells #[] 5 (0, 0))) p5 rfl
      rw [g1.i 0 (by omega), g1.i 1 (by omega), g1.i 2 (by omega), g1.h 4 (by omega), v0, v1, v2, w4]
      refine ⟨⟨⟨_, ho0⟩, Int.le_refl _, by simpa using hok, by rw [Int.toNat_natCast]; unfold maxLen; simp; omega, by rw [Int.toNat_natCast]; simp; omega⟩, fun q2 g2 ⟨a1, a2, a3, _⟩ => fun _ => ?_⟩
      have hx2 := a3 _ ho0
      rw [hseg, List.nil_append] at hx2
      refine ⟨[], [1], rfl, rfl, ⟨⟨fun k => [q2.i 6, 0, q2.i 2, q2.i 7].getD k 0, fun _ => false, fun _ => .empty, fun _ => .tuple #[], fun _ => Hl.none⟩, rfl, ⟨a1, Int.le_refl _, ?_, a2⟩, trivial⟩, _, bs, R, rfl, rfl, hRd, ?_⟩
      · show 0 ≤ q2.i 2
        rw [g2.i 2 (by omega), g1.i 2 (by omega), v2]; omega
      · show OwB (hls [q2.h 6]) _ (.slice (slP (q2.i 6) 0) (q2.i 2).toNat (q2.i 7).toNat) bs
        rw [hls_one, g2.i 2 (by omega), g1.i 2 (by omega), v2]
        unfold OwB
        rw [Int.toNat_natCast]
        simpa using hx2
def sbigS : Sx.Spec where
  fn := 67
  own := []
  rd := [0]
  res := [.one (.int .u64)]
  pre := fun xs Hs Rs => ∃ u bs R, xs = [u] ∧ Rs = [R] ∧ RdW R u bs ∧ bs.length ≤ 1000
  post := fun xs Hs Rs v Hs' F => ∃ u bs R, xs = [u] ∧ Rs = [R] ∧ RdW R u bs ∧ v = .int .u64 (bigI bs)
def sbigNd : Nd := .and (.e (.le (.lit 0) (.var 2))) (.and (.inv 0 [⟨10, 0, .int .i64 (.lit 0)⟩, ⟨11, 0, .int .i64 (.lit 0)⟩] []) (.havoc 0 0 5 (.and (.imp (.lt (.var 11) (.var 2)) (.and (.e (.le (.lit 0) (.var 0))) (.and (.e (.le (.lit 0) (.var 1))) (.and (.e (.le (.lit 0) (.var 11))) (.and (.e (.his 4 (.var 0) (.add (.var 1) (.var 11)) 0 (.int .u8))) (.back 0 0 [⟨10, 0, .int .i64 (.bits .or .u64 (.shl .u64 (.var 10) (.lit 8)) (.wrap .u64 (.hI 4 (.var 0) (.add (.var 1) (.var 11)) 0)))⟩, ⟨11, 0, .int .i64 (.wrap .i64 (.add (.var 11) (.lit 1)))⟩] [])))))) (.imp (.not (.lt (.var 11) (.var 2))) (.post [.ro 4 [.var 0] false] (.sv (.one (.int .u64 (.var 10)))))))))
def sbigW : Walk Tryd.prog [] sbigS.fn where
  Λ := fun p => if lp p then some ⟨0, [(3, TI .u64 (.var 10)), (8, TI .i64 (.var 11))], [], 12⟩ else none
  args := [.sv (.one (.sl (.var 0) (.var 1) (.var 2) (.var 3)))]
  mem := [.ro 4 [.var 0] false]
  nv := 5
  nd := sbigNd
  ok := by kernel_rfl
theorem sbigS_ok : sbigS.OK Tryd.prog := by
  refine Spec.of_fn (Γ := []) (fun _ h => by cases h) ?_
  rintro xs Hs Rs hl1 hl2 ⟨u, bs, R, rfl, rfl, ⟨x, y, cp, rfl, hy, hR⟩, hlen⟩
  have e0 : Hs = [] := List.length_eq_zero_iff.1 hl1
  subst e0
  refine ⟨sbigW, envI [x, y, bs.length, cp] false [Hl.none, Hl.none, Hl.none, Hl.none, R], bigInv bs, fun _ q => (bs.length - q.i 11).toNat, ?_, ⟨?_, ?_, ?_, ?_⟩, (fun _ h => nomatch h), ?_⟩
  · show [Value.slice (slP x y) ((bs.length : Int)).toNat ((cp : Int)).toNat] = _
    rw [Int.toNat_natCast, Int.toNat_natCast]
  · intro r hr ho; simp [sbigW] at hr; subst hr; cases ho
  · intro r hr ho; simp [sbigW] at hr; subst hr; exact ⟨R, by simp, Hl.le_refl _⟩
  · simp [sbigW]
  · intro r hr; simp [sbigW] at hr; subst hr; trivial
  · show Nd.holds _ _ _ sbigNd
    generalize hρ : envI [x, y, bs.length, cp] false [Hl.none, Hl.none, Hl.none, Hl.none, R] = ρ
    have v0 : ρ.i 0 = x := by rw [← hρ]; rfl
    have v1 : ρ.i 1 = y := by rw [← hρ]; rfl
    have v2 : ρ.i 2 = bs.length := by rw [← hρ]; rfl
    have w4 : ρ.h 4 = R := by rw [← hρ]; rfl
    unfold sbigNd
    simp only [Nd.holds, X.pre, X.rel, X.n, Src.ok, Src.len, Src.vals, true_and, and_true, if_true, Nat.mul_one, Nat.add_zero, Nat.reduceAdd, List.length_cons, List.length_nil, bT_tt, bT_ff, bT_bvar, bT_not, bT_and, bT_or, bT_ite, bT_lt, bT_le, bT_eq, bT_beq, bT_seq, bT_hB, bT_his, bT_hby, bT_hism, bT_hks, iev_lit, iev_var, iev_add, iev_sub, iev_mul, iev_wrap, iev_ite, iev_hI, iev_hP, iev_hmlen, sev_ite, sev_slit, sev_sof, sev_svar, TV.ev, SV.ev, CV.ev, List.map_cons, List.map_nil, Res.hl]
    rw [v2]
    refine ⟨by omega, ⟨0, by omega, rfl, rfl⟩, fun q g ⟨k, hk, h11, h10⟩ => ?_⟩
    rw [g.i 0 (by omega), g.i 1 (by omega), g.i 2 (by omega), g.h 4 (by omega), v0, v1, v2, w4, h11]
    refine ⟨fun hlt => ?_, fun hge => ?_⟩
    · have hk' : k < bs.length := by omega
      have hxr : 0 ≤ x ∧ ∀ j z, bs[j]? = some z → R.cell x.toNat (y.toNat + j) = some (.int .u8 z) := by
        rcases hR with h | h
        · subst h; simp at hk'
        · exact h
      have hc : R.cell x.toNat (y + k).toNat = some (.int .u8 bs[k]) := by
        rw [show (y + (k : Int)).toNat = y.toNat + k by omega]
        exact hxr.2 _ _ (List.getElem?_eq_getElem hk')
      rw [hc]
      refine ⟨hxr.1, hy, by omega, rfl, ⟨k + 1, by omega, ?_, ?_⟩, ?_⟩
      · show IntKind.i64.wrap (q.i 11 + 1) = _
        rw [h11]; exact wrap_i64 (by omega) (by omega)
      · show bigB (q.i 10) (valI ((q.h 4).cell (q.i 0).toNat (q.i 1 + q.i 11).toNat)) = _
        rw [h10, g.i 0 (by omega), g.i 1 (by omega), g.h 4 (by omega), v0, v1, w4, h11, hc, bigI_take bs k hk']
        rfl
      · show ((bs.length : Int) - IntKind.i64.wrap (q.i 11 + 1)).toNat < _
        rw [h11, wrap_i64 (by omega) (by omega)]; omega
    · have e : k = bs.length := by omega
      subst e
      rw [List.take_length] at h10
      refine fun _ => ⟨[], [], rfl, rfl, ⟨⟨fun _ => q.i 10, fun _ => false, fun _ => .empty, fun _ => .tuple #[], fun _ => Hl.none⟩, rfl, trivial, trivial⟩, _, bs, R, rfl, rfl, ⟨x, y, cp, rfl, hy, hR⟩, ?_⟩
      show Value.int .u64 (q.i 10) = _
      rw [h10]
def leftS : Sx.Spec where
  fn := 68
  own := []
  rd := [0]
  res := [.one (.int .i64)]
  pre := fun xs Hs Rs => ∃ p R bs bad, xs = [p] ∧ Rs = [R] ∧ InAt R p bs bad
  post := fun xs Hs Rs v Hs' F => ∃ p R bs bad, xs = [p] ∧ Rs = [R] ∧ InAt R p bs bad ∧ v = .int .i64 bs.length
def badS : Sx.Spec where
  fn := 70
  own := []
  rd := [0]
  res := [.one .bool]
  pre := fun xs Hs Rs => ∃ p R bs bad, xs = [p] ∧ Rs = [R] ∧ InAt R p bs bad
  post := fun xs Hs Rs v Hs' F => ∃ p R bs bad, xs = [p] ∧ Rs = [R] ∧ InAt R p bs bad ∧ v = .bool bad
def leftNd : Nd := .and (.e (.le (.lit 0) (.var 0))) (.and (.e (.his 1 (.var 0) (.lit 0) 0 .slice)) (.and (.e (.le (.lit 0) (.hP 1 (.var 0) (.lit 0) 0 2))) (.post [.ro 1 [.var 0] false] (.sv (.one (.int .i64 (.hP 1 (.var 0) (.lit 0) 0 2)))))))
def leftW : Walk Tryd.prog [] leftS.fn where
  Λ := noLoops
  args := [TP (.var 0) (.lit 0)]
  mem := [.ro 1 [.var 0] false]
  nv := 2
  nd := leftNd
  ok := by kernel_rfl
def badNd : Nd := .and (.e (.le (.lit 0) (.var 0))) (.and (.e (.his 1 (.var 0) (.lit 1) 0 .bool)) (.post [.ro 1 [.var 0] false] (.sv (.one (.bool (.hB 1 (.var 0) (.lit 1) 0))))))
def badW : Walk Tryd.prog [] badS.fn where
  Λ := noLoops
  args := [TP (.var 0) (.lit 0)]
  mem := [.ro 1 [.var 0] false]
  nv := 2
  nd := badNd
  ok := by kernel_rfl
theorem leftS_ok : leftS.OK Tryd.prog := by
  refine Spec.of_fn (Γ := []) (fun _ h => by cases h) ?_
  rintro xs Hs Rs hl1 hl2 ⟨p, R, bs, bad, rfl, rfl, hIn⟩
  have e0 : Hs = [] := List.length_eq_zero_iff.1 hl1
  subst e0
  obtain ⟨a, x, y, c, rfl, hc0, hc1, hx, hy, hR⟩ := hIn.whole
  refine ⟨leftW, envI [(a : Int)] false [Hl.none, R], fun _ _ => True, fun _ _ => 0, ?_, ⟨?_, ?_, ?_, ?_⟩, (fun _ h => nomatch h), ?_⟩
  · show [Value.pointer (slP (a : Int) 0)] = _
    rw [ptr0]
  · intro r hr ho; simp [leftW] at hr; subst hr; cases ho
  · intro r hr ho; simp [leftW] at hr; subst hr; exact ⟨R, by simp, Hl.le_refl _⟩
  · simp [leftW]
  · intro r hr; simp [leftW] at hr; subst hr; trivial
  · show Nd.holds _ _ _ leftNd
    generalize hρ : envI [(a : Int)] false [Hl.none, R] = ρ
    have v0 : ρ.i 0 = a := by rw [← hρ]; rfl
    have w1 : ρ.h 1 = R := by rw [← hρ]; rfl
    clear hρ
    have tn0 : Int.toNat 0 = 0 := rfl
    unfold leftNd
    simp only [Nd.holds, X.pre, X.rel, X.n, Src.ok, Src.len, Src.vals, true_and, and_true, if_true, Nat.mul_one, Nat.add_zero, Nat.reduceAdd, List.length_cons, List.length_nil, bT_tt, bT_ff, bT_bvar, bT_not, bT_and, bT_or, bT_ite, bT_lt, bT_le, bT_eq, bT_beq, bT_seq, bT_hB, bT_his, bT_hby, bT_hism, bT_hks, iev_lit, iev_var, iev_add, iev_sub, iev_mul, iev_wrap, iev_ite, iev_hI, iev_hP, iev_hmlen, sev_ite, sev_slit, sev_sof, sev_svar, TV.ev, SV.ev, CV.ev, List.map_cons, List.map_nil, Res.hl, tn0]
    rw [v0, w1, Int.toNat_natCast, hc0, sl2 hx]
    refine ⟨by omega, rfl, by omega, fun _ => ⟨[], [], rfl, rfl, ⟨⟨fun _ => bs.length, fun _ => false, fun _ => .empty, fun _ => .tuple #[], fun _ => Hl.none⟩, ?_, trivial, trivial⟩, _, R, bs, bad, rfl, rfl, hIn, ?_⟩⟩
    all_goals
      show Value.int .i64 (valP (((ρ.h 1).cell (ρ.i 0).toNat (Int.toNat 0 + 0))) 2) = _
      rw [v0, w1, Int.toNat_natCast, tn0, Nat.add_zero, hc0, sl2 hx]
      try rfl
theorem badS_ok : badS.OK Tryd.prog := by
  refine Spec.of_fn (Γ := []) (fun _ h => by cases h) ?_
  rintro xs Hs Rs hl1 hl2 ⟨p, R, bs, bad, rfl, rfl, hIn⟩
  have e0 : Hs = [] := List.length_eq_zero_iff.1 hl1
  subst e0
  obtain ⟨a, x, y, c, rfl, hc0, hc1, hx, hy, hR⟩ := hIn.whole
  refine ⟨badW, envI [(a : Int)] false [Hl.none, R], fun _ _ => True, fun _ _ => 0, ?_, ⟨?_, ?_, ?_, ?_⟩, (fun _ h => nomatch h), ?_⟩
  · show [Value.pointer (slP (a : Int) 0)] = _
    rw [ptr0]
  · intro r hr ho; simp [badW] at hr; subst hr; cases ho
  · intro r hr ho; simp [badW] at hr; subst hr; exact ⟨R, by simp, Hl.le_refl _⟩
  · simp [badW]
  · intro r hr; simp [badW] at hr; subst hr; trivial
  · show Nd.holds _ _ _ badNd
    generalize hρ : envI [(a : Int)] false [Hl.none, R] = ρ
    have v0 : ρ.i 0 = a := by rw [← hρ]; rfl
    have w1 : ρ.h 1 = R := by rw [← hρ]; rfl
    clear hρ
    have tn1 : Int.toNat 1 = 1 := rfl
    unfold badNd
    simp only [Nd.holds, X.pre, X.rel, X.n, Src.ok, Src.len, Src.vals, true_and, and_true, if_true, Nat.mul_one, Nat.add_zero, Nat.reduceAdd, List.length_cons, List.length_nil, bT_tt, bT_ff, bT_bvar, bT_not, bT_and, bT_or, bT_ite, bT_lt, bT_le, bT_eq, bT_beq, bT_seq, bT_hB, bT_his, bT_hby, bT_hism, bT_hks, iev_lit, iev_var, iev_add, iev_sub, iev_mul, iev_wrap, iev_ite, iev_hI, iev_hP, iev_hmlen, sev_ite, sev_slit, sev_sof, sev_svar, TV.ev, SV.ev, CV.ev, List.map_cons, List.map_nil, Res.hl, tn1]
    rw [v0, w1, Int.toNat_natCast, hc1]
    refine ⟨by omega, rfl, fun _ => ⟨[], [], rfl, rfl, ⟨⟨fun _ => 0, fun _ => bad, fun _ => .empty, fun _ => .tuple #[], fun _ => Hl.none⟩, ?_, trivial, trivial⟩, _, R, bs, bad, rfl, rfl, hIn, ?_⟩⟩
    all_goals
      show Value.bool (valB (((ρ.h 1).cell (ρ.i 0).toNat (Int.toNat 1 + 0)))) = _
      rw [v0, w1, Int.toNat_natCast, tn1, hc1]
      try rfl
def genI (L : LM) : Int := bigI (L.note.take 8)
def genS : Sx.Spec where
  fn := 30
  own := []
  rd := [0]
  res := [.one (.int .u64)]
  pre := fun xs Hs Rs => ∃ p R dp sl L, xs = [p] ∧ Rs = [R] ∧ LogRd R p dp sl L
  post := fun xs Hs Rs v Hs' F => ∃ p R dp sl L, xs = [p] ∧ Rs = [R] ∧ LogRd R p dp sl L ∧ v = .int .u64 (genI L)
def gnΓ : List Sx.Spec := [sbigS, lnoteS]
theorem gnΓ_ok : ∀ t ∈ gnΓ, t.OK Tryd.prog := fun t ht => by
  simp only [gnΓ, List.mem_cons, List.mem_nil_iff, or_false] at ht
  rcases ht with rfl | rfl
  · exact sbigS_ok
  · exact lnoteS_ok
def genNd : Nd := .and (.pre (.call 1 2 [.sv (.one (.hptr (.var 0) (.lit 0)))] [] [.ro 1 [.var 0] false])) (.ext (.call 1 2 [.sv (.one (.hptr (.var 0) (.lit 0)))] [] [.ro 1 [.var 0] false]) (.ext (.alloc 18) (.and (.pre (.call 0 19 [.sv (.one (.sl (.var 18) (.lit 0) (.lit 8) (.lit 16)))] [] [.blk 18 (ckCVs 2 (List.replicate 16 (Ck.int .u8))) 41])) (.ext (.call 0 19 [.sv (.one (.sl (.var 18) (.lit 0) (.lit 8) (.lit 16)))] [] [.blk 18 (ckCVs 2 (List.replicate 16 (Ck.int .u8))) 41]) (.post [.ro 1 [.var 0] false, .dead] (.sv (.one (.int .u64 (.var 19)))))))))
def genW : Walk Tryd.prog gnΓ genS.fn where
  Λ := noLoops
  args := [TP (.var 0) (.lit 0)]
  mem := [.ro 1 [.var 0] false]
  nv := 2
  nd := genNd
  ok := by kernel_rfl
theorem gng0 : gnΓ[0]? = some sbigS := rfl
theorem gng1 : gnΓ[1]? = some lnoteS := rfl
theorem gnr0 : sbigS.res = [.one (.int .u64)] := rfl
theorem gnr1 : lnoteS.res = [.agg (u8s 16)] := rfl
theorem genS_ok : genS.OK Tryd.prog := by
  refine Spec.of_fn (Γ := gnΓ) gnΓ_ok ?_
  rintro xs Hs Rs hl1 hl2 ⟨p, R, dp, sl, L, rfl, rfl, hL⟩
  have e0 : Hs = [] := List.length_eq_zero_iff.1 hl1
  subst e0
  obtain ⟨a, rfl, hLi⟩ := id hL
  refine ⟨genW, envI [(a : Int)] false [Hl.none, R], fun _ _ => True, fun _ _ => 0, ?_, ⟨?_, ?_, ?_, ?_⟩, (fun _ h => nomatch h), ?_⟩
  · show [Value.pointer (slP (a : Int) 0)] = _
    rw [ptr0]
  · intro r hr ho; simp [genW] at hr; subst hr; cases ho
  · intro r hr ho; simp [genW] at hr; subst hr; exact ⟨R, by simp, Hl.le_refl _⟩
  · simp [genW]
  · intro r hr; simp [genW] at hr; subst hr; trivial
  · show Nd.holds _ _ _ genNd
    generalize hρ : envI [(a : Int)] false [Hl.none, R] = ρ
    have v0 : ρ.i 0 = a := by rw [← hρ]; rfl
    have w1 : ρ.h 1 = R := by rw [← hρ]; rfl
    clear hρ
    unfold genNd
    simp only [Nd.holds, X.pre, X.rel, X.n, Src.ok, Src.len, Src.vals, true_and, and_true, if_true, Nat.mul_one, Nat.add_zero, Nat.reduceAdd, List.length_cons, List.length_nil, bT_tt, bT_ff, bT_bvar, bT_not, bT_and, bT_or, bT_ite, bT_lt, bT_le, bT_eq, bT_beq, bT_seq, bT_hB, bT_his, bT_hby, bT_hism, bT_hks, iev_lit, iev_var, iev_add, iev_sub, iev_mul, iev_wrap, iev_ite, iev_hI, iev_hP, iev_hmlen, sev_ite, sev_slit, sev_sof, sev_svar, TV.ev, SV.ev, CV.ev, List.map_cons, List.map_nil, Res.hl, cpTV, Cp.sv, Ck.cv, cpSVs, Cp.len, Ck.len, newHs_zero, newHs_one, roots_ne, gng0, gng1, gnr0, gnr1]
    rw [v0, w1, ptr0]
    refine ⟨⟨_, R, dp, sl, L, rfl, rfl, hL⟩, fun q1 g1 ⟨F1, ⟨p', R', dp', sl', L', e1, e2, hL', hv⟩, _⟩ q2 g2 p2 => ?_⟩
    simp only [List.cons.injEq, and_true] at e1 e2
    subst e1 e2
    obtain ⟨_, _, rfl⟩ := hL.uniq hL'
    have ec : (ckCVs 2 (List.replicate 16 (Ck.int .u8))).map (CV.ev q1) = bys L.note := List.toArray_inj (Value.agg.inj hv)
    have ec2 : (ckCVs 2 (List.replicate 16 (Ck.int .u8))).map (CV.ev q2) = bys L.note := (CV.agreeL g2 _ (by decide)).trans ec
    have hn16 := hLi.1.note
    have hRd : RdW (Hl.one (q2.i 18).toNat (.cells (bys L.note).toArray 41 (0, 0))) (.slice (slP (q2.i 18) 0) (Int.toNat 8) (Int.toNat 16)) (L.note.take 8) := by
      refine ⟨q2.i 18, 0, 16, ?_, Int.le_refl _, Or.inr ⟨p2, fun j z hj => ?_⟩⟩
      · rw [List.length_take, hn16]; rfl
      · have hj8 : j < 8 := by have := (List.getElem?_eq_some_iff.1 hj).1; rw [List.length_take] at this; omega
        rw [List.getElem?_take_of_lt hj8] at hj
        rw [Hl.one_cell, List.getElem?_toArray, bys_get, Int.toNat_zero, Nat.zero_add, hj]; rfl
    rw [ec2]
    refine ⟨⟨_, _, _, rfl, rfl, hRd, by rw [List.length_take]; omega⟩, fun q3 g3 ⟨F3, ⟨u', bs', R3, e1, e2, hR3, hv3⟩, _⟩ _ => ?_⟩
    simp only [List.cons.injEq, and_true] at e1 e2
    subst e1 e2
    rw [← hRd.uniq hR3] at hv3
    have hv3 : Value.int .u64 (q3.i 19) = .int .u64 (genI L) := hv3
    exact ⟨[], [], rfl, rfl, ⟨⟨fun _ => genI L, fun _ => false, fun _ => .empty, fun _ => .tuple #[], fun _ => Hl.none⟩, hv3, trivial, trivial⟩, _, R, dp, sl, L, rfl, rfl, hL, hv3⟩
end Go.Proofs.YtomdimlnggpgbaaDoor
namespace Go.Sx
open Go
theorem OwnsH.own_mem {F : Hl} {e : TypeId} {k : Nat} {v : Value} {n : Nat} {us : List Value} (h : OwnsH F e k v n us) {b : Nat} (hb : v.ownBlock = some b) : F.mem b := by
  rcases h.2 with ⟨h, _⟩ | ⟨gg, cap, cur, h, hg, _⟩
  · rw [h] at hb; cases hb
  · rw [h] at hb
    have : gg = b := by simpa [Value.ownBlock] using hb
    subst this
    unfold Hl.mem; rw [hg]; rfl
theorem OwnsH.mono {F G : Hl} (hl : F.le G) {e : TypeId} {k : Nat} {v : Value} {m : Nat} {us : List Value} (h : OwnsH F e k v m us) : OwnsH G e k v m us := by
  refine ⟨h.1, h.2.imp id fun ⟨g, cap, cur, hv, hg, r⟩ => ⟨g, cap, cur, hv, hl _ _ hg, r⟩⟩
theorem OwnsH.inj {F : Hl} {e : TypeId} {k : Nat} {v : Value} {n m : Nat} {us ws : List Value} (h1 : OwnsH F e k v n us) (h2 : OwnsH F e k v m ws) : n = m ∧ us = ws := by
  obtain ⟨l1, h1⟩ := h1
  obtain ⟨l2, h2⟩ := h2
  rcases h1 with ⟨h1, hn⟩ | ⟨g, cap, cur, h1, hg, _, _, _, ht⟩ <;> rcases h2 with ⟨h2, hm⟩ | ⟨g', cap', cur', h2, hg', _, _, _, ht'⟩
  · subst hn; subst hm
    refine ⟨rfl, ?_⟩
    rw [Nat.zero_mul] at l1 l2
    rw [List.length_eq_zero_iff.1 l1, List.length_eq_zero_iff.1 l2]
  · rw [h1] at h2; cases h2
  · rw [h1] at h2; cases h2
  · rw [h1] at h2
    simp only [Value.slice.injEq, Option.some.injEq, Addr.mk.injEq, and_true] at h2
    obtain ⟨eg, en, _⟩ := h2
    subst eg; subst en
    rw [hg] at hg'
    simp only [Option.some.injEq, Obj.cells.injEq, and_true] at hg'
    rw [← ht, ← ht', hg']
    exact ⟨rfl, rfl⟩
theorem OwnsH.cellAt {F : Hl} {e : TypeId} {x l c : Int} {n : Nat} {us : List Value} (h : OwnsH F e 1 (.slice (slP x 0) l.toNat c.toNat) n us) (hx : -1 ≤ x) {i : Nat} (hi : i < n) : 0 ≤ x ∧ F.cell x.toNat i = us[i]? := by
  obtain ⟨hl, h⟩ := h
  rcases h with ⟨_, hn⟩ | ⟨g, cap, cur, hv, hg, hle, hm, hs, ht⟩
  · omega
  · simp only [Value.slice.injEq] at hv
    obtain ⟨hp, _, _⟩ := hv
    have h0 : 0 ≤ x := by
      rcases Int.lt_or_le x 0 with hlt | h0
      · rw [show x = -1 by omega, slP_nil] at hp; cases hp
      · exact h0
    rw [slP_pos h0] at hp
    simp only [Option.some.injEq, Addr.mk.injEq, and_true] at hp
    refine ⟨h0, ?_⟩
    rw [hp.1, ← ht]; unfold Hl.cell; rw [hg, List.getElem?_take_of_lt (by omega), Array.getElem?_toList]
end Go.Sx
namespace Go.Proofs.YtomdimlnggpgbaaDoor
open Go Go.Sx Go.Pk
theorem slP_eqS {a b x y : Int} (hx : 0 ≤ x) (hy : 0 ≤ y) (hb : 0 ≤ b) (h : slP a b = slP x y) : a = x ∧ b = y := by
  rcases Int.lt_or_le a 0 with ha | ha
  · exfalso
    rw [slP_pos hx] at h
    unfold slP at h
    rw [if_neg (by omega)] at h
    split at h
    · cases h
    · simp only [Option.some.injEq, Addr.mk.injEq] at h
      obtain ⟨_, _, h⟩ := h
      cases h
  · rw [slP_pos ha, slP_pos hx] at h
    simp only [Option.some.injEq, Addr.mk.injEq] at h
    omega
theorem own_slP {a y : Int} {l c : Nat} (h : 0 ≤ a) : (Value.slice (slP a y) l c).ownBlock = some a.toNat := by
  rw [slP_pos h]; rfl
theorem app_new {H : Hl} {x x' : Int} {l c l' c' : Nat} (hx : -1 ≤ x') (h : some x'.toNat = (Value.slice (slP x 0) l c).ownBlock ∨ ¬ H.mem x'.toNat ∨ x' = -1) : ∀ b, H.mem b → some b ≠ (Value.slice (slP x 0) l c).ownBlock → some b ≠ (Value.slice (slP x' 0) l' c').ownBlock := by
  intro b hb hne he
  rcases Int.lt_or_le x' 0 with hn | hn
  · rw [show x' = -1 by omega, slP_nil] at he; cases he
  · rw [own_slP hn] at he
    have he : b = x'.toNat := by simpa using he
    rcases h with h | h | h
    · exact hne (by rw [he]; exact h)
    · rw [← he] at h; exact h hb
    · omega
def RowR (F : Hl) (o : Option Nat) (u : Value) (r : List Int) : Prop := ∃ (x y : Int) (c : Nat), u = .slice (slP x y) r.length c ∧ -1 ≤ x ∧ 0 ≤ y ∧ (r = [] ∨ (0 ≤ x ∧ some x.toNat ≠ o ∧ ∀ j z, r[j]? = some z → F.cell x.toNat (y.toNat + j) = some (.int .u8 z)))
theorem cell_mem {F : Hl} {b j : Nat} {v : Value} (h : F.cell b j = some v) : F.mem b := by
  unfold Hl.cell at h
  unfold Hl.mem
  cases hF : F b with
  | none => rw [hF] at h; cases h
  | some o => rfl
theorem cell_of {F G : Hl} {b j : Nat} {v : Value} (h : F.cell b j = some v) (e : G b = F b) : G.cell b j = some v := by
  unfold Hl.cell at h ⊢
  rw [e]; exact h
theorem RowR.keep {F G : Hl} {o o' : Option Nat} {u : Value} {r : List Int} (h : RowR F o u r) (hk : ∀ b, F.mem b → some b ≠ o → G b = F b) (hn : ∀ b, F.mem b → some b ≠ o → some b ≠ o') : RowR G o' u r := by
  obtain ⟨x, y, c, hu, hx, hy, h⟩ := h
  refine ⟨x, y, c, hu, hx, hy, ?_⟩
  cases r with
  | nil => exact Or.inl rfl
  | cons z r =>
    rcases h with h | ⟨h0, hne, hc⟩
    · cases h
    · have hm : F.mem x.toNat := cell_mem (hc 0 z rfl)
      exact Or.inr ⟨h0, hn _ hm hne, fun j w hj => cell_of (hc j w hj) (hk _ hm hne)⟩
theorem RowR.rd {F : Hl} {o : Option Nat} {u : Value} {r : List Int} (h : RowR F o u r) : RdW F u r := by
  obtain ⟨x, y, c, hu, _, hy, h⟩ := h
  exact ⟨x, y, c, hu, hy, h.imp id fun h => ⟨h.1, h.2.2⟩⟩
theorem RowR.of {F : Hl} {x y l c : Int} {r : List Int} (h : RdW F (.slice (slP x y) l.toNat c.toNat) r) (hx : -1 ≤ x) (hy : 0 ≤ y) : RowR F none (.slice (slP x y) l.toNat c.toNat) r := by
  obtain ⟨x', y', c', hu, hy', h⟩ := h
  simp only [Value.slice.injEq] at hu
  obtain ⟨h1, h2, h3⟩ := hu
  refine ⟨x, y, c.toNat, by rw [h2], hx, hy, h.imp id fun ⟨h0, h⟩ => ?_⟩
  obtain ⟨e1, e2⟩ := slP_inj hx hy (by omega) hy' h1
  subst e1
  have e2 := e2 h0
  subst e2
  exact ⟨h0, by simp, h⟩
def RowsR (F : Hl) (v : Value) (rows : List (List Int)) : Prop := ∃ us : List Value, OwnsH F 30 1 v rows.length us ∧
  ∀ (j : Nat) (u : Value) (r : List Int), us[j]? = some u → rows[j]? = some r → RowR F v.ownBlock u r
theorem RowsR.nil (F : Hl) : RowsR F (.slice none 0 0) [] := ⟨[], ⟨rfl, Or.inl ⟨rfl, rfl⟩⟩, (fun j u r h => by simp at h)⟩
theorem RowsR.len {F : Hl} {v : Value} {rows : List (List Int)} {us : List Value} (h : OwnsH F 30 1 v rows.length us) : us.length = rows.length := by
  have := h.1; omega
theorem RowsR.mono {F G : Hl} (hl : F.le G) {v : Value} {rows : List (List Int)} (h : RowsR F v rows) : RowsR G v rows := by
  obtain ⟨us, ho, hr⟩ := h
  refine ⟨us, OwnsH.mono hl ho, fun j u r hu hrr => (hr j u r hu hrr).keep (fun b hm _ => ?_) (fun _ _ h => h)⟩
  obtain ⟨o, ho⟩ := Option.isSome_iff_exists.1 hm
  rw [hl _ _ ho, ho]
theorem RowsR.snoc {F B G : Hl} {v v' u : Value} {rows : List (List Int)} {r : List Int} (h : RowsR F v rows) (hd : F.dis B) (hu : RowR B none u r)
    (happ : ∀ xs, OwnsH (F.un B) 30 1 v rows.length xs → OwnsH G 30 1 v' (rows.length + 1) (xs ++ [u]))
    (hk : ∀ b, (F.un B).mem b → some b ≠ v.ownBlock → G b = (F.un B) b) (hn : ∀ b, (F.un B).mem b → some b ≠ v.ownBlock → some b ≠ v'.ownBlock) : RowsR G v' (rows ++ [r]) := by
  obtain ⟨us, ho, hr⟩ := h
  have hul := RowsR.len ho
  have hold : ∀ (j : Nat) (w : Value) (s : List Int), us[j]? = some w → rows[j]? = some s → RowR (F.un B) v.ownBlock w s := fun j w s hj hs =>
    (hr j w s hj hs).keep (fun b hm _ => by obtain ⟨o, ho⟩ := Option.isSome_iff_exists.1 hm; rw [Hl.un_at_left ho, ho]) (fun b _ h => h)
  have hun : RowR (F.un B) v.ownBlock u r := hu.keep (fun b hm _ => by rw [Hl.un_at_right fun h2 => hd b ⟨h2, hm⟩]) fun b hm _ e => hd b ⟨ho.own_mem e.symm, hm⟩
  refine ⟨us ++ [u], ?_, fun j w s hj hs => ?_⟩
  · rw [List.length_append, List.length_singleton]
    exact happ us (ho.mono (Hl.un_left _ _))
  · rcases Nat.lt_or_ge j us.length with hl | hl
    · rw [List.getElem?_append_left hl] at hj
      rw [List.getElem?_append_left (by omega)] at hs
      exact (hold j w s hj hs).keep hk hn
    · rw [List.getElem?_append_right hl] at hj
      rw [List.getElem?_append_right (by omega)] at hs
      have hj := List.mem_of_getElem? hj
      have hs := List.mem_of_getElem? hs
      rw [List.mem_singleton] at hj hs
      subst hj; subst hs
      exact hun.keep hk hn
theorem RowsR.at {F : Hl} {x l c : Int} {rows : List (List Int)} (h : RowsR F (.slice (slP x 0) l.toNat c.toNat) rows) (hx : -1 ≤ x) (hl : 0 ≤ l) : l = rows.length ∧ ∀ (i : Nat) r, rows[i]? = some r → 0 ≤ x ∧ ∃ u, F.cell x.toNat i = some u ∧ RowR F (some x.toNat) u r := by
  obtain ⟨us, ho, hr⟩ := h
  have hul := RowsR.len ho
  refine ⟨?_, fun i r hi => ?_⟩
  · rcases ho.2 with ⟨h, hn⟩ | ⟨g, cap, cur, h, _⟩
    · simp only [Value.slice.injEq] at h; omega
    · simp only [Value.slice.injEq] at h; omega
  · have hi' := (List.getElem?_eq_some_iff.1 hi).1
    obtain ⟨h0, hc⟩ := ho.cellAt hx hi'
    have hu : us[i]? = some us[i] := List.getElem?_eq_getElem (by omega)
    have := hr i _ r hu hi
    rw [own_slP h0] at this
    exact ⟨h0, _, by rw [hc, hu], this⟩
theorem RowsR.uniq {F : Hl} {v : Value} {a b : List (List Int)} (h1 : RowsR F v a) (h2 : RowsR F v b) : a = b := by
  obtain ⟨us, ho, hr⟩ := h1
  obtain ⟨ws, ho', hr'⟩ := h2
  obtain ⟨el, e⟩ := ho.inj ho'
  subst e
  have hul := RowsR.len ho
  apply List.ext_getElem el
  intro j hj hj'
  have hu : us[j]? = some us[j] := List.getElem?_eq_getElem (by omega)
  exact (hr j _ _ hu (List.getElem?_eq_getElem hj)).rd.uniq (hr' j _ _ hu (List.getElem?_eq_getElem hj')).rd
theorem rowsR_app {G F B : Hl} {x l c x' c' : Int} {rows : List (List Int)} {u : Value} {r : List Int} (h : RowsR F (.slice (slP x 0) l.toNat c.toNat) rows) (hx : -1 ≤ x) (hl : 0 ≤ l) (hd : F.dis B) (hu : RowR B none u r) (hx' : -1 ≤ x')
    (happ : ∀ xs, OwnsH (F.un B) 30 1 (.slice (slP x 0) l.toNat c.toNat) l.toNat xs → OwnsH G 30 1 (.slice (slP x' 0) (l.toNat + 1) c'.toNat) (l.toNat + 1) (xs ++ [u]))
    (hkeep : ∀ b, (F.un B).mem b → some b ≠ (Value.slice (slP x 0) l.toNat c.toNat).ownBlock → G b = (F.un B) b) (hnew : some x'.toNat = (Value.slice (slP x 0) l.toNat c.toNat).ownBlock ∨ ¬ (F.un B).mem x'.toNat ∨ x' = -1) : RowsR G (.slice (slP x' 0) (l + 1).toNat c'.toNat) (rows ++ [r]) := by
  have hlr : l = rows.length := (h.at hx hl).1
  have e1 : (l + 1).toNat = rows.length + 1 := by omega
  have e2 : l.toNat = rows.length := by omega
  rw [e2] at happ
  rw [e1]
  rw [e2] at h hkeep hnew
  exact RowsR.snoc h hd hu happ hkeep (app_new hx' hnew)
end Go.Proofs.YtomdimlnggpgbaaDoor
namespace Go.Proofs.YtomdimlnggpgbaaDoor
open Go Go.Sx Go.Pk
def tx (bs : List Int) : List Int × List Int × Bool := inText bs false 4096
def takenG : Nat → List Int → List (List Int)
  | 0, _ => []
  | n + 1, bs => if bs = [] then [] else if (tx bs).2.2 = true then [] else (tx bs).1 :: takenG n (tx bs).2.1
def takenL (bs : List Int) : List (List Int) := takenG bs.length bs
theorem tx_less {bs : List Int} (h0 : bs ≠ []) (h : (tx bs).2.2 = false) : (tx bs).2.1.length < bs.length := by
  have hl : 0 < bs.length := List.length_pos_iff.2 h0
  unfold tx inText at h ⊢
  split at h
  · cases h
  · rename_i hc
    rw [if_neg hc]
    have h2 : (numR bs).2 ≠ 0 := fun e => hc (Or.inr (Or.inl e))
    show (bs.drop _).length < _
    rw [List.length_drop]; omega
theorem takenG_nil : ∀ n, takenG n [] = []
  | 0 => rfl
  | _ + 1 => rfl
theorem takenG_same : ∀ (n m : Nat) (bs : List Int), bs.length ≤ n → bs.length ≤ m → takenG n bs = takenG m bs
  | 0, m, bs, h, _ => by
    have : bs = [] := List.length_eq_zero_iff.1 (by omega)
    rw [this, takenG_nil, takenG_nil]
  | n + 1, 0, bs, _, h => by
    have : bs = [] := List.length_eq_zero_iff.1 (by omega)
    rw [this, takenG_nil, takenG_nil]
  | n + 1, m + 1, bs, h1, h2 => by
    unfold takenG
    by_cases h0 : bs = []
    · rw [if_pos h0, if_pos h0]
    · rw [if_neg h0, if_neg h0]
      by_cases hb : (tx bs).2.2 = true
      · rw [if_pos hb, if_pos hb]
      · rw [if_neg hb, if_neg hb]
        have := tx_less h0 (Bool.eq_false_iff.2 hb)
        rw [takenG_same n m _ (by omega) (by omega)]
theorem takenG_more (n : Nat) (bs : List Int) (h : bs.length ≤ n) : takenG n bs = takenL bs := takenG_same n bs.length bs h (Nat.le_refl _)
theorem takenL_at {bs : List Int} (h : bs ≠ []) : takenL bs = if (tx bs).2.2 = true then [] else (tx bs).1 :: takenL (tx bs).2.1 := by
  rw [← takenG_more (bs.length + 1) bs (by omega)]
  show (if bs = [] then [] else if (tx bs).2.2 = true then [] else (tx bs).1 :: takenG bs.length (tx bs).2.1) = _
  rw [if_neg h]
  cases hb : (tx bs).2.2 with
  | true => rfl
  | false => rw [if_neg (by simp), if_neg (by simp), takenG_more _ _ (by have := tx_less h hb; omega)]
def takenS : Sx.Spec where
  fn := 31
  own := []
  rd := [0]
  res := [.one .sl]
  pre := fun xs Hs Rs => ∃ u bs R, xs = [u] ∧ Rs = [R] ∧ RdW R u bs ∧ bytes256 bs ∧ bs.length ≤ 1000000
  post := fun xs Hs Rs v Hs' F => ∃ u bs R, xs = [u] ∧ Rs = [R] ∧ RdW R u bs ∧ RowsR F v (takenL bs)
def tnΓ : List Sx.Spec := [readPS, leftS, textS, badS]
theorem tnΓ_ok : ∀ t ∈ tnΓ, t.OK Tryd.prog := fun t ht => by
  simp only [tnΓ, List.mem_cons, List.mem_nil_iff, or_false] at ht
  rcases ht with rfl | rfl | rfl | rfl
  · exact readPS_ok
  · exact leftS_ok
  · exact textS_ok
  · exact badS_ok
def takenNd : Nd := .and (.pre (.call 0 5 [.sv (.one (.sl (.var 0) (.var 1) (.var 2) (.var 3)))] [] [.ro 4 [.var 0] false])) (.ext (.call 0 5 [.sv (.one (.sl (.var 0) (.var 1) (.var 2) (.var 3)))] [] [.ro 4 [.var 0] false]) (.and (.inv 0 [⟨53, 0, .int .i64 (.lit (-1))⟩, ⟨54, 0, .int .i64 (.lit 0)⟩, ⟨55, 0, .int .i64 (.lit 0)⟩] [(51, some 5), (56, none)]) (.havoc 0 0 7 (.and (.pre (.call 1 60 [.sv (.one (.hptr (.var 5) (.var 6)))] [] [.hp 51 [] [.var 5] []])) (.ext (.call 1 60 [.sv (.one (.hptr (.var 5) (.var 6)))] [] [.hp 51 [] [.var 5] []]) (.and (.imp (.lt (.lit 0) (.var 60)) (.and (.pre (.call 2 61 [.sv (.one (.hptr (.var 5) (.var 6))), .sv (.one (.int .i64 (.lit 4096)))] [.hp 51 [] [.var 5] []] [])) (.ext (.call 2 61 [.sv (.one (.hptr (.var 5) (.var 6))), .sv (.one (.int .i64 (.lit 4096)))] [.hp 51 [] [.var 5] []] []) (.and (.pre (.call 3 65 [.sv (.one (.hptr (.var 5) (.var 6)))] [] [.hp 61 [51] [.var 5] []])) (.ext (.call 3 65 [.sv (.one (.hptr (.var 5) (.var 6)))] [] [.hp 61 [51] [.var 5] []]) (.and (.imp (.bvar 65) (.post [.ro 4 [.var 0] false, .hp 61 [51] [.var 5] [], .hp 56 [] [.var 53] [], .hp 62 [] [.var 61] []] (.sv (.one (.sl (.var 53) (.lit 0) (.var 54) (.var 55)))))) (.imp (.not (.bvar 65)) (.ext (.alloc 66) (.ext (.mrg 67 (.hp 56 [] [.var 53] []) (.hp 62 [] [.var 61] [])) (.and (.pre (.app 68 30 1 24 (.sl (.var 53) (.lit 0) (.var 54) (.var 55)) (.var 54) (.hp 67 [56, 62] [.var 53, .var 61, .var 61] []) (.cvs [.sl (.var 61) (.var 62) (.var 63) (.var 64)] 1))) (.ext (.app 68 30 1 24 (.sl (.var 53) (.lit 0) (.var 54) (.var 55)) (.var 54) (.hp 67 [56, 62] [.var 53, .var 61, .var 61] []) (.cvs [.sl (.var 61) (.var 62) (.var 63) (.var 64)] 1)) (.back 0 0 [⟨53, 0, .int .i64 (.var 68)⟩, ⟨54, 0, .int .i64 (.add (.var 54) (.lit 1))⟩, ⟨55, 0, .int .i64 (.var 69)⟩] [(51, some 61), (56, some 68)])))))))))))) (.imp (.not (.lt (.lit 0) (.var 60))) (.post [.ro 4 [.var 0] false, .hp 51 [] [.var 5] [], .hp 56 [] [.var 53] []] (.sv (.one (.sl (.var 53) (.lit 0) (.var 54) (.var 55))))))))))))
def takenW : Walk Tryd.prog tnΓ takenS.fn where
  Λ := fun p => if lp0 p then some ⟨0, [(3, .sv (.one (.sl (.var 53) (.lit 0) (.var 54) (.var 55))))], [(1, .hp 51 [] [.var 5] []), (2, .hp 56 [] [.var 53] [])], 60⟩ else none
  args := [.sv (.one (.sl (.var 0) (.var 1) (.var 2) (.var 3)))]
  mem := [.ro 4 [.var 0] false]
  nv := 5
  nd := takenNd
  ok := by kernel_rfl
theorem tng0 : tnΓ[0]? = some readPS := rfl
theorem tng1 : tnΓ[1]? = some leftS := rfl
theorem tng2 : tnΓ[2]? = some textS := rfl
theorem tng3 : tnΓ[3]? = some badS := rfl
theorem tnr0 : readPS.res = [.one .ptr] := rfl
theorem tnr1 : leftS.res = [.one (.int .i64)] := rfl
theorem tnr2 : textS.res = [.one .sl] := rfl
theorem tnr3 : badS.res = [.one .bool] := rfl
theorem rsl (n : Nat) : (cpRoots n [Cp.one .sl] ≠ []) = True := by simp [cpRoots, Cp.roots, Ck.root]
theorem rptr (n : Nat) : (cpRoots n [Cp.one .ptr] ≠ []) = True := by simp [cpRoots, Cp.roots, Ck.root]
theorem takenS_ok : takenS.OK Tryd.prog := by
  refine Spec.of_fn (Γ := tnΓ) tnΓ_ok ?_
  rintro xs Hs Rs hl1 hl2 ⟨u, bs, R, rfl, rfl, hRd, hby, hlen⟩
  have e0 : Hs = [] := List.length_eq_zero_iff.1 hl1
  subst e0
  obtain ⟨x, y, c, rfl, hy, hR⟩ := id hRd
  refine ⟨takenW, envI [x, y, bs.length, c] false [Hl.none, Hl.none, Hl.none, Hl.none, R], fun _ q => ∃ rest rows, InAt (q.h 51) (.pointer (slP (q.i 5) (q.i 6))) rest false ∧ -1 ≤ q.i 53 ∧ 0 ≤ q.i 54 ∧ 0 ≤ q.i 55 ∧ RowsR (q.h 56) (.slice (slP (q.i 53) 0) (q.i 54).toNat (q.i 55).toNat) rows ∧ rows ++ takenL rest = takenL bs ∧ rows.length + rest.length ≤ bs.length, fun _ q => (bs.length - q.i 54).toNat, ?_, ⟨?_, ?_, ?_, ?_⟩, (fun _ h => nomatch h), ?_⟩
  · show [Value.slice (slP x y) ((bs.length : Int)).toNat ((c : Int)).toNat] = _
    rw [Int.toNat_natCast, Int.toNat_natCast]
  · intro r hr ho; simp [takenW] at hr; subst hr; cases ho
  · intro r hr ho; simp [takenW] at hr; subst hr; exact ⟨R, by simp, Hl.le_refl _⟩
  · simp [takenW]
  · intro r hr; simp [takenW] at hr; subst hr; trivial
  · show Nd.holds _ _ _ takenNd
    generalize hρ : envI [x, y, bs.length, c] false [Hl.none, Hl.none, Hl.none, Hl.none, R] = ρ
    have v0 : ρ.i 0 = x := by rw [← hρ]; rfl
    have v1 : ρ.i 1 = y := by rw [← hρ]; rfl
    have v2 : ρ.i 2 = bs.length := by rw [← hρ]; rfl
    have v3 : ρ.i 3 = c := by rw [← hρ]; rfl
    have w4 : ρ.h 4 = R := by rw [← hρ]; rfl
    clear hρ
    have out : ∀ {q : Env} {rows : List (List Int)} {mem : Mem}, okIdx mem [] [2] = true → (uni q mem [2]) = q.h 56 → -1 ≤ q.i 53 → 0 ≤ q.i 54 → 0 ≤ q.i 55 → RowsR (q.h 56) (.slice (slP (q.i 53) 0) (q.i 54).toNat (q.i 55).toNat) rows → rows = takenL bs → postOf takenS [.slice (slP x y) bs.length c] [] [R] q mem (.sv (.one (.sl (.var 53) (.lit 0) (.var 54) (.var 55)))) := by
      intro q rows mem hok hu h1 h2 h3 hr he _
      subst he
      exact ⟨[], [2], rfl, hok, ⟨⟨fun k => [q.i 53, 0, q.i 54, q.i 55].getD k 0, fun _ => false, fun _ => .empty, fun _ => .tuple #[], fun _ => Hl.none⟩, rfl, ⟨h1, Int.le_refl _, h2, h3⟩, trivial⟩, _, bs, R, rfl, rfl, hRd, by rw [hu]; exact hr⟩
    unfold takenNd
    simp only [Nd.holds, X.pre, X.rel, X.n, Src.ok, Src.len, Src.vals, true_and, and_true, if_true, Nat.mul_one, Nat.add_zero, Nat.reduceAdd, List.length_cons, List.length_nil, bT_tt, bT_ff, bT_bvar, bT_not, bT_and, bT_or, bT_ite, bT_lt, bT_le, bT_eq, bT_beq, bT_seq, bT_hB, bT_his, bT_hby, bT_hism, bT_hks, iev_lit, iev_var, iev_add, iev_sub, iev_mul, iev_wrap, iev_ite, iev_hI, iev_hP, iev_hmlen, sev_ite, sev_slit, sev_sof, sev_svar, TV.ev, SV.ev, CV.ev, List.map_cons, List.map_nil, Res.hl, cpTV, Cp.sv, Ck.cv, cpSVs, Cp.len, Ck.len, newHs_zero, newHs_one, roots_ne, tng0, tng1, tng2, tng3, tnr0, tnr1, tnr2, tnr3, rsl, rptr]
    rw [v0, v1, v2, v3, w4, Int.toNat_natCast, Int.toNat_natCast]
    refine ⟨⟨_, bs, R, rfl, rfl, hRd, hby, hlen⟩, fun q1 g1 ⟨F1, ⟨u', bs', R', e1, e2, hR', hIn⟩, hF1, _⟩ => ?_⟩
    simp only [List.cons.injEq, and_true] at e1 e2
    subst e1 e2
    obtain rfl := hRd.uniq hR'
    rw [← hF1 trivial] at hIn
    refine ⟨⟨bs, [], hIn, Int.le_refl _, Int.le_refl _, Int.le_refl _, RowsR.nil _, rfl, by simp⟩, fun q2 g2 ⟨rest, rows, hI, x53, x54, x55, hO, hsum, hle⟩ => ?_⟩
    have hlr := (hO.at x53 x54).1
    refine ⟨⟨_, _, rest, false, rfl, rfl, hI⟩, fun q3 g3 ⟨F3, ⟨p3, R3, bs3, bad3, e1, e2, hI3, hv3⟩, _⟩ => ?_⟩
    simp only [List.cons.injEq, and_true] at e1 e2
    subst e1 e2
    obtain ⟨e3, _⟩ := hI.uniq hI3
    subst e3
    have hv3 : q3.i 60 = rest.length := by simpa using hv3
    rw [hv3]
    have hend : rest.length = 0 → rows = takenL bs := fun h => by
      have : rest = [] := List.length_eq_zero_iff.1 h
      subst this
      rw [← hsum]; exact (List.append_nil _).symm
    refine ⟨fun hpos => ?_, fun hneg => out rfl (hls_one _) (by rw [g3.i 53 (by omega)]; exact x53) (by rw [g3.i 54 (by omega)]; exact x54) (by rw [g3.i 55 (by omega)]; exact x55) (by rw [g3.i 53 (by omega), g3.i 54 (by omega), g3.i 55 (by omega), g3.h 56 (by omega)]; exact hO) (hend (by omega))⟩
    have hne : rest ≠ [] := by rintro rfl; simp at hpos
    rw [g3.i 5 (by omega), g3.i 6 (by omega), g3.h 51 (by omega)]
    refine ⟨⟨_, 4096, _, rest, false, rfl, rfl, hI, by omega⟩, fun q4 g4 ⟨F4, ⟨p4, m4, H4, bs4, bad4, H4', e1, e2, hI4, e3, hI4', hv4⟩, hF4, hn4⟩ => ?_⟩
    simp only [List.cons.injEq, Value.int.injEq, true_and, and_true] at e1 e2 e3
    obtain ⟨e1, em⟩ := e1
    subst e1 em e2
    obtain ⟨e4, e5⟩ := hI.uniq hI4
    subst e4 e5
    rw [← e3] at hI4'
    rw [← hF4 trivial] at hv4
    have hI4' : InAt (q4.h 61) (.pointer (slP (q2.i 5) (q2.i 6))) (tx rest).2.1 (tx rest).2.2 := hI4'
    have hv4 : OwB (q4.h 62) 5 (.slice (slP (q4.i 61) (q4.i 62)) (q4.i 63).toNat (q4.i 64).toNat) (tx rest).1 := hv4
    have hn4 : -1 ≤ q4.i 61 ∧ 0 ≤ q4.i 62 ∧ 0 ≤ q4.i 63 ∧ 0 ≤ q4.i 64 := hn4.1
    rw [g4.i 5 (by omega), g4.i 6 (by omega), g3.i 5 (by omega), g3.i 6 (by omega)]
    refine ⟨⟨_, _, _, _, rfl, rfl, hI4'⟩, fun q5 g5 ⟨F5, ⟨p5, R5, bs5, bad5, e1, e2, hI5, hv5⟩, _⟩ => ?_⟩
    simp only [List.cons.injEq, and_true] at e1 e2
    subst e1 e2
    obtain ⟨_, e5⟩ := hI4'.uniq hI5
    subst e5
    have hv5 : q5.b 65 = (tx rest).2.2 := by simpa [bev_bvar] using hv5
    have hat := takenL_at hne
    have G : Agree 60 q2 q5 := g3.trans ((g4.trans (g5.mono (by omega))).mono (by omega))
    have G4 : Agree 65 q4 q5 := g5
    rw [hv5]
    refine ⟨fun hb => out rfl (hls_one _) (by rw [G.i 53 (by omega)]; exact x53) (by rw [G.i 54 (by omega)]; exact x54) (by rw [G.i 55 (by omega)]; exact x55) (by rw [G.i 53 (by omega), G.i 54 (by omega), G.i 55 (by omega), G.h 56 (by omega)]; exact hO) (by rw [← hsum, hat, if_pos hb, List.append_nil]), fun hb q6 g6 _ q7 g7 ⟨e7, hd7⟩ => ?_⟩
    have hb : (tx rest).2.2 = false := Bool.eq_false_iff.2 hb
    have G7 : Agree 60 q2 q7 := G.trans ((g6.trans (g7.mono (by omega))).mono (by omega))
    have G47 : Agree 65 q4 q7 := G4.trans ((g6.trans (g7.mono (by omega))).mono (by omega))
    have G46 : Agree 65 q4 q6 := G4.trans (g6.mono (by omega))
    have G6 : Agree 60 q2 q6 := G.trans (g6.mono (by omega))
    have hu : RowR (q6.h 62) none (.slice (slP (q7.i 61) (q7.i 62)) (q7.i 63).toNat (q7.i 64).toNat) (tx rest).1 := by
      rw [G46.h 62 (by omega), G47.i 61 (by omega), G47.i 62 (by omega), G47.i 63 (by omega), G47.i 64 (by omega)]
      exact RowR.of hv4.rd.w hn4.1 hn4.2.1
    rw [e7, G6.h 56 (by omega), G7.i 53 (by omega), G7.i 54 (by omega), G7.i 55 (by omega)]
    rw [G6.h 56 (by omega)] at hd7
    have hpre : ∃ xs, OwnsH ((q2.h 56).un (q6.h 62)) 30 1 (.slice (slP (q2.i 53) 0) (q2.i 54).toNat (q2.i 55).toNat) (q2.i 54).toNat xs := by
      obtain ⟨us, ho, _⟩ := hO
      rw [show (q2.i 54).toNat = rows.length by omega] at ho ⊢
      exact ⟨us, ho.mono (Hl.un_left _ _)⟩
    refine ⟨⟨hpre, x54, by unfold maxLen; omega, by omega⟩, fun q8 g8 ⟨a1, a2, happ, hk, _, hn⟩ => ?_⟩
    have G8 : Agree 60 q2 q8 := G7.trans (g8.mono (by omega))
    have G48 : Agree 65 q4 q8 := G47.trans (g8.mono (by omega))
    have hrows := rowsR_app hO x53 x54 hd7 hu a1 happ hk hn
    have e54 : q8.i 54 + 1 = q2.i 54 + 1 := by rw [G8.i 54 (by omega)]
    have hless := tx_less hne hb
    refine ⟨⟨(tx rest).2.1, rows ++ [(tx rest).1], ?_, a1, ?_, a2, ?_, ?_, ?_⟩, ?_⟩
    · show InAt (q8.h 61) (.pointer (slP (q8.i 5) (q8.i 6))) _ _
      rw [G48.h 61 (by omega), G8.i 5 (by omega), G8.i 6 (by omega), ← hb]; exact hI4'
    · show 0 ≤ q8.i 54 + 1
      omega
    · show RowsR (q8.h 68) (.slice (slP (q8.i 68) 0) (q8.i 54 + 1).toNat (q8.i 69).toNat) _
      rw [e54]; exact hrows
    · rw [List.append_assoc, ← hsum, hat, if_neg (by rw [hb]; simp)]; rfl
    · rw [List.length_append, List.length_singleton]; omega
    · show ((bs.length : Int) - (q8.i 54 + 1)).toNat < _
      omega
end Go.Proofs.YtomdimlnggpgbaaDoor
namespace Go.Proofs.YtomdimlnggpgbaaDoor
open Go Go.Sx Go.Pk
theorem sl_parts {u : Value} (h : ∃ a l c, u = .slice a l c) : Value.slice (slP (valP (some u) 0) (valP (some u) 1)) (valP (some u) 2).toNat (valP (some u) 3).toNat = u := by
  obtain ⟨a, n, c, rfl⟩ := h
  cases a with
  | none => simp [valP, slP]
  | some a =>
    obtain ⟨b, o, s⟩ := a
    cases s with
    | none => simp [valP, slP]
    | some s =>
      simp only [valP, Int.toNat_natCast]
      unfold slP
      rw [if_neg (by omega), if_neg (by omega), Int.toNat_natCast, unp_pair, show (-(-(b : Int) - 2) - 2).toNat = b by omega]
theorem RdW.parts {R : Hl} {u : Value} {r : List Int} (h : RdW R u r) : (∃ a l c, u = .slice a l c) ∧ valP (some u) 2 = r.length ∧
    (valP (some u) 0 = -1 ∨ valP (some u) 2 = 0 ∨ 0 ≤ valP (some u) 0 ∧ 0 ≤ valP (some u) 1 ∧ cellBytes R (valP (some u) 0).toNat (valP (some u) 1).toNat (valP (some u) 2).toNat = true) ∧
    (if valP (some u) 0 = -1 then ByteArray.empty else bytesOf (cellInts R (valP (some u) 0).toNat (valP (some u) 1).toNat (valP (some u) 2).toNat)) = bytesOf r := by
  obtain ⟨x, y, c, rfl, hy, h⟩ := h
  have h2 : valP (some (.slice (slP x y) r.length c)) 2 = r.length := by
    cases hs : slP x y with
    | none => rfl
    | some a => obtain ⟨b, o, s⟩ := a; cases s <;> rfl
  refine ⟨⟨_, _, _, rfl⟩, h2, ?_⟩
  rw [h2]
  rcases h with h | ⟨hx, hc⟩
  · subst h
    refine ⟨Or.inr (Or.inl rfl), ?_⟩
    show (if _ then ByteArray.empty else bytesOf (cellInts R _ _ 0)) = ByteArray.empty
    split <;> rfl
  · rw [sl0 (by omega), sl1 hx hy, Int.toNat_natCast]
    refine ⟨Or.inr (Or.inr ⟨hx, hy, cells_bytes hc (Nat.le_refl _)⟩), ?_⟩
    rw [if_neg (by omega), cells_ints hc]
def RowsB (R RA : Hl) (v : Value) (rows : List (List Int)) : Prop := ∃ (us : List Value) (x y : Int) (c : Nat), v = .slice (slP x y) us.length c ∧ 0 ≤ y ∧ us.length = rows.length ∧ (∀ (j : Nat) (u : Value), us[j]? = some u → 0 ≤ x ∧ R.cell x.toNat (y.toNat + j) = some u) ∧ (∀ (j : Nat) (u : Value) (r : List Int), us[j]? = some u → rows[j]? = some r → RdW RA u r)
theorem RowsB.uniq {R RA : Hl} {v : Value} {a b : List (List Int)} (h1 : RowsB R RA v a) (h2 : RowsB R RA v b) : a = b := by
  obtain ⟨us, x, y, c, hv, hy, hl, hc, hr⟩ := h1
  obtain ⟨us', x', y', c', hv', hy', hl', hc', hr'⟩ := h2
  rw [hv] at hv'
  simp only [Value.slice.injEq] at hv'
  obtain ⟨ep, el, _⟩ := hv'
  apply List.ext_getElem (by omega)
  intro j hj hj'
  have hu : us[j]? = some us[j] := List.getElem?_eq_getElem (by omega)
  have hu' : us'[j]? = some us'[j] := List.getElem?_eq_getElem (by omega)
  obtain ⟨hx, e1⟩ := hc j _ hu
  obtain ⟨hx', e2⟩ := hc' j _ hu'
  obtain ⟨exx, eyy⟩ := slP_inj (by omega) hy (by omega) hy' ep
  have eyy := eyy hx
  subst exx; subst eyy
  rw [e1] at e2
  have e2 : us[j] = us'[j] := by simpa using e2
  have h1 := hr j _ _ hu (List.getElem?_eq_getElem hj)
  have h2 := hr' j _ _ hu' (List.getElem?_eq_getElem hj')
  rw [e2] at h1
  exact h1.uniq h2
theorem RowsB.at {R RA : Hl} {x y : Int} {l c : Nat} {rows : List (List Int)} (h : RowsB R RA (.slice (slP x y) l c) rows) (hy : 0 ≤ y) : l = rows.length ∧ ∀ (i : Nat) r, rows[i]? = some r → 0 ≤ x ∧ ∃ u, R.cell x.toNat (y.toNat + i) = some u ∧ RdW RA u r := by
  obtain ⟨us, x', y', c', hv, hy', hl, hc, hr⟩ := h
  simp only [Value.slice.injEq] at hv
  obtain ⟨ep, el, _⟩ := hv
  refine ⟨by omega, fun i r hi => ?_⟩
  have hi' := (List.getElem?_eq_some_iff.1 hi).1
  have hu : us[i]? = some us[i] := List.getElem?_eq_getElem (by omega)
  obtain ⟨hx, e⟩ := hc i _ hu
  obtain ⟨rfl, rfl⟩ := slP_eqS hx hy' hy ep
  exact ⟨hx, _, e, hr i _ r hu hi⟩
theorem RdW.slice {R : Hl} {u : Value} {r : List Int} (h : RdW R u r) : ∃ (x y : Int) (c : Nat), u = .slice (slP x y) r.length c ∧ 0 ≤ y := by
  obtain ⟨x, y, c, e, hy, _⟩ := h
  exact ⟨x, y, c, e, hy⟩
def packB (rows : List (List Int)) : List Int := (rows.map textBytes).flatten
def packOk (rows : List (List Int)) : Prop := ∀ r ∈ rows, r.length ≤ 4096
theorem packB_take {rows : List (List Int)} {k : Nat} {r : List Int} (h : rows[k]? = some r) : packB (rows.take (k + 1)) = packB (rows.take k) ++ textBytes r := by
  unfold packB
  rw [List.take_add_one, h, Option.toList_some, List.map_append, List.flatten_append]
  simp
def packedS : Sx.Spec where
  fn := 72
  own := []
  rd := [0, 3000000]
  res := [.one .sl, .one (.int .i64)]
  pre := fun xs Hs Rs => ∃ v R RA rows, xs = [v] ∧ Rs = [R, RA] ∧ RowsB R RA v rows ∧ rows.length ≤ 1000000 ∧ ∀ r ∈ rows, r.length ≤ 1000000
  post := fun xs Hs Rs w Hs' F => ∃ v R RA rows u e, xs = [v] ∧ Rs = [R, RA] ∧ RowsB R RA v rows ∧ w = .tuple #[u, .int .i64 e] ∧ (packOk rows → e = 0 ∧ OwB F 5 u (packB rows)) ∧ (¬ packOk rows → e = 3)
def pkΓ : List Sx.Spec := [oTextS, oEndS]
theorem pkΓ_ok : ∀ t ∈ pkΓ, t.OK Tryd.prog := fun t ht => by
  simp only [pkΓ, List.mem_cons, List.mem_nil_iff, or_false] at ht
  rcases ht with rfl | rfl
  · exact oTextS_ok
  · exact oEndS_ok
def packedNd : Nd := .and (.e (.le (.lit 0) (.var 2))) (.and (.inv 0 [⟨53, 0, .int .i64 (.lit (-1))⟩, ⟨54, 0, .int .i64 (.lit 0)⟩, ⟨55, 0, .int .i64 (.lit 0)⟩, ⟨50, 0, .int .i64 (.lit 0)⟩] [(56, none)]) (.havoc 0 0 6 (.and (.imp (.lt (.var 50) (.var 2)) (.and (.e (.le (.lit 0) (.var 0))) (.and (.e (.le (.lit 0) (.var 1))) (.and (.e (.le (.lit 0) (.var 50))) (.and (.e (.his 4 (.var 0) (.add (.var 1) (.var 50)) 0 .slice)) (.ext (.alloc 60) (.and (.pre (.call 0 61 [.sv (.one (.hptr (.var 60) (.lit 0))), .sv (.one (.sl (.hP 4 (.var 0) (.add (.var 1) (.var 50)) 0 0) (.hP 4 (.var 0) (.add (.var 1) (.var 50)) 0 1) (.hP 4 (.var 0) (.add (.var 1) (.var 50)) 0 2) (.hP 4 (.var 0) (.add (.var 1) (.var 50)) 0 3)))] [.blk 60 [.sl (.lit (-1)) (.lit 0) (.lit 0) (.lit 0), .bool .ff] 124] [.ro 5 [] true])) (.ext (.call 0 61 [.sv (.one (.hptr (.var 60) (.lit 0))), .sv (.one (.sl (.hP 4 (.var 0) (.add (.var 1) (.var 50)) 0 0) (.hP 4 (.var 0) (.add (.var 1) (.var 50)) 0 1) (.hP 4 (.var 0) (.add (.var 1) (.var 50)) 0 2) (.hP 4 (.var 0) (.add (.var 1) (.var 50)) 0 3)))] [.blk 60 [.sl (.lit (-1)) (.lit 0) (.lit 0) (.lit 0), .bool .ff] 124] [.ro 5 [] true]) (.and (.pre (.call 1 63 [.sv (.one (.hptr (.var 60) (.lit 0)))] [] [.hp 61 [] [.var 60] []])) (.ext (.call 1 63 [.sv (.one (.hptr (.var 60) (.lit 0)))] [] [.hp 61 [] [.var 60] []]) (.and (.imp (.not (.eq (.var 67) (.lit 0))) (.post [.ro 4 [.var 0] false, .ro 5 [] true, .hp 56 [] [.var 53] [], .hp 61 [] [.var 60] [], .hp 63 [] [.var 63] []] (.tup [.one (.sl (.lit (-1)) (.lit 0) (.lit 0) (.lit 0)), .one (.int .i64 (.var 67))]))) (.imp (.eq (.var 67) (.lit 0)) (.and (.pre (.app 68 5 1 1 (.sl (.var 53) (.lit 0) (.var 54) (.var 55)) (.var 54) (.hp 56 [] [.var 53] []) (.seg 63 (.var 63) (.var 64) (.var 65)))) (.ext (.app 68 5 1 1 (.sl (.var 53) (.lit 0) (.var 54) (.var 55)) (.var 54) (.hp 56 [] [.var 53] []) (.seg 63 (.var 63) (.var 64) (.var 65))) (.back 0 0 [⟨53, 0, .int .i64 (.var 68)⟩, ⟨54, 0, .int .i64 (.add (.var 54) (.var 65))⟩, ⟨55, 0, .int .i64 (.var 69)⟩, ⟨50, 0, .int .i64 (.wrap .i64 (.add (.var 50) (.lit 1)))⟩] [(56, some 68)]))))))))))))))) (.imp (.not (.lt (.var 50) (.var 2))) (.post [.ro 4 [.var 0] false, .ro 5 [] true, .hp 56 [] [.var 53] []] (.tup [.one (.sl (.var 53) (.lit 0) (.var 54) (.var 55)), .one (.int .i64 (.lit 0))]))))))
def packedW : Walk Tryd.prog pkΓ packedS.fn where
  Λ := fun p => if lp0 p then some ⟨0, [(4, .sv (.one (.sl (.var 53) (.lit 0) (.var 54) (.var 55)))), (12, TI .i64 (.var 50))], [(2, .hp 56 [] [.var 53] [])], 60⟩ else none
  args := [.sv (.one (.sl (.var 0) (.var 1) (.var 2) (.var 3)))]
  mem := [.ro 4 [.var 0] false, .ro 5 [] true]
  nv := 6
  nd := packedNd
  ok := by kernel_rfl
theorem pkg0 : pkΓ[0]? = some oTextS := rfl
theorem pkg1 : pkΓ[1]? = some oEndS := rfl
theorem pkr0 : oTextS.res = [] := rfl
theorem pkr1 : oEndS.res = [.one .sl, .one (.int .i64)] := rfl
theorem rsi (n : Nat) : (cpRoots n [Cp.one .sl, Cp.one (.int .i64)] ≠ []) = True := by simp [cpRoots, Cp.roots, Ck.root]
theorem packedS_ok : packedS.OK Tryd.prog := by
  refine Spec.of_fn (Γ := pkΓ) pkΓ_ok ?_
  rintro xs Hs Rs hl1 hl2 ⟨v, R, RA, rows, rfl, rfl, hB, hlen, hrow⟩
  have e0 : Hs = [] := List.length_eq_zero_iff.1 hl1
  subst e0
  obtain ⟨us, x, y, c, rfl, hy, hul, hcell, hrd⟩ := id hB
  refine ⟨packedW, envI [x, y, us.length, c] false [Hl.none, Hl.none, Hl.none, Hl.none, R, RA], fun _ q => ∃ k : Nat, q.i 50 = k ∧ k ≤ rows.length ∧ (∀ r ∈ rows.take k, r.length ≤ 4096) ∧ -1 ≤ q.i 53 ∧ q.i 54 = (packB (rows.take k)).length ∧ 0 ≤ q.i 55 ∧ OwB (q.h 56) 5 (.slice (slP (q.i 53) 0) (q.i 54).toNat (q.i 55).toNat) (packB (rows.take k)) ∧ (packB (rows.take k)).length ≤ 4106 * k, fun _ q => (rows.length - q.i 50).toNat, ?_, ⟨?_, ?_, ?_, ?_⟩, (fun _ h => nomatch h), ?_⟩
  · show [Value.slice (slP x y) ((us.length : Int)).toNat ((c : Int)).toNat] = _
    rw [Int.toNat_natCast, Int.toNat_natCast]
  · intro r hr ho; simp [packedW] at hr; rcases hr with rfl | rfl <;> cases ho
  · intro r hr ho; simp [packedW] at hr
    rcases hr with rfl | rfl
    · exact ⟨R, by simp, Hl.le_refl _⟩
    · exact ⟨RA, by simp, Hl.le_refl _⟩
  · simp [packedW, Res.own]
  · intro r hr; simp [packedW] at hr; rcases hr with rfl | rfl <;> trivial
  · show Nd.holds _ _ _ packedNd
    generalize hρ : envI [x, y, us.length, c] false [Hl.none, Hl.none, Hl.none, Hl.none, R, RA] = ρ
    have v0 : ρ.i 0 = x := by rw [← hρ]; rfl
    have v1 : ρ.i 1 = y := by rw [← hρ]; rfl
    have v2 : ρ.i 2 = us.length := by rw [← hρ]; rfl
    have v3 : ρ.i 3 = c := by rw [← hρ]; rfl
    have w4 : ρ.h 4 = R := by rw [← hρ]; rfl
    have w5 : ρ.h 5 = RA := by rw [← hρ]; rfl
    clear hρ
    unfold packedNd
    simp only [Nd.holds, X.pre, X.rel, X.n, Src.ok, Src.len, Src.vals, true_and, and_true, if_true, Nat.mul_one, Nat.add_zero, Nat.reduceAdd, List.length_cons, List.length_nil, bT_tt, bT_ff, bT_bvar, bT_not, bT_and, bT_or, bT_ite, bT_lt, bT_le, bT_eq, bT_beq, bT_seq, bT_hB, bT_his, bT_hby, bT_hism, bT_hks, iev_lit, iev_var, iev_add, iev_sub, iev_mul, iev_wrap, iev_ite, iev_hI, iev_hP, iev_hmlen, sev_ite, sev_slit, sev_sof, sev_svar, TV.ev, SV.ev, CV.ev, List.map_cons, List.map_nil, Res.hl, cpTV, Cp.sv, Ck.cv, cpSVs, Cp.len, Ck.len, newHs_zero, newHs_one, roots_ne, pkg0, pkg1, pkr0, pkr1, rsi]
    rw [v2]
    refine ⟨by omega, ⟨0, rfl, Nat.zero_le _, (by simp), Int.le_refl _, rfl, Int.le_refl _, ⟨rfl, Or.inl ⟨rfl, rfl⟩⟩, by simp [packB]⟩, fun q g ⟨k, ek, hk, h4k, x53, y54, x55, hO, hle⟩ => ?_⟩
    rw [g.i 0 (by omega), g.i 1 (by omega), g.i 2 (by omega), g.h 4 (by omega), v0, v1, v2, w4, ek]
    refine ⟨fun hlt => ?_, fun hge => ?_⟩
    · have hkr : k < rows.length := by omega
      have hr : rows[k]? = some rows[k] := List.getElem?_eq_getElem hkr
      have hu : us[k]? = some us[k] := List.getElem?_eq_getElem (by omega)
      obtain ⟨hx0, hc⟩ := hcell k _ hu
      have hRr := hrd k _ _ hu hr
      have hsl : ∃ a l c, us[k] = Value.slice a l c := (RdW.parts hRr).1
      have hck : R.cell x.toNat (y + (k : Int)).toNat = some us[k] := by rw [show (y + (k : Int)).toNat = y.toNat + k by omega]; exact hc
      refine ⟨hx0, hy, by omega, by rw [hck]; obtain ⟨_, _, _, e⟩ := hsl; rw [e]; rfl, fun q1 g1 p60 => ?_⟩
      have G1 : Agree 6 ρ q1 := g.trans (g1.mono (by omega))
      rw [G1.h 4 (by omega), G1.h 5 (by omega), G1.i 0 (by omega), G1.i 1 (by omega), g1.i 50 (by omega), v0, v1, w4, w5, ek, hck, sl_parts hsl, slP_pos p60]
      refine ⟨⟨_, _, _, RA, [], false, rows[k], rfl, rfl, rfl, OutAt.new _, hRr, by simp, hrow _ (List.getElem_mem _)⟩, fun q2 g2 ⟨F2, ⟨p2, u2, H2, R2, bs2, lg2, b2, H2', e1, e2, e3, hO2, hR2, e4, hO2'⟩, _⟩ => ?_⟩
      simp only [List.cons.injEq, and_true] at e1 e2 e3 e4
      obtain ⟨e1, e1'⟩ := e1
      subst e1 e1' e2 e3
      obtain ⟨eb, el⟩ := (OutAt.new _).uniq hO2
      subst eb el
      obtain rfl := hRr.uniq hR2
      rw [← e4] at hO2'
      have hOT : outText [] false rows[k] = if 4096 < rows[k].length then ([], true) else (textBytes rows[k], false) := rfl
      rw [hOT] at hO2'
      have htl : rows[k].length ≤ 4096 → (textBytes rows[k]).length ≤ 4106 := fun h => by
        unfold textBytes
        have := num_bound (z := rows[k].length) (by omega)
        rw [List.length_append]; omega
      have hbnd : (if 4096 < rows[k].length then (([] : List Int), true) else (textBytes rows[k], false)).1.length ≤ 1000000 := by
        split
        · simp
        · have := htl (by omega); show (textBytes rows[k]).length ≤ _; omega
      rw [g2.i 60 (by omega), slP_pos p60]
      refine ⟨⟨_, _, _, _, rfl, rfl, hO2', hbnd⟩, fun q3 g3 ⟨F3, ⟨p3, R3, bs3, lg3, u3, e1, e2, hO3, hv3, hw3⟩, hF3, hn3⟩ => ?_⟩
      simp only [List.cons.injEq, and_true] at e1 e2
      subst e1 e2
      obtain ⟨eb, el⟩ := hO2'.uniq hO3
      subst eb el
      simp only [Value.tuple.injEq, Array.mk.injEq, List.cons.injEq, Value.int.injEq, true_and, and_true] at hv3
      obtain ⟨eu, e67⟩ := hv3
      rw [← eu, ← hF3 trivial] at hw3
      have G3 : Agree 60 q q3 := g1.trans ((g2.trans (g3.mono (by omega))).mono (by omega))
      have hn3 : -1 ≤ q3.i 63 ∧ 0 ≤ q3.i 64 ∧ 0 ≤ q3.i 65 ∧ 0 ≤ q3.i 66 := hn3.1
      by_cases hbig : 4096 < rows[k].length
      · rw [if_pos hbig] at e67
        have e67 : q3.i 67 = 3 := e67
        refine ⟨fun _ _ => ?_, fun h0 => (by omega)⟩
        refine ⟨[], [], rfl, rfl, ⟨⟨fun j => [-1, 0, 0, 0, 3].getD j 0, fun _ => false, fun _ => .empty, fun _ => .tuple #[], fun _ => Hl.none⟩, ?_, ⟨Int.le_refl _, Int.le_refl _, Int.le_refl _, Int.le_refl _⟩, trivial, trivial⟩, _, R, RA, rows, .slice none 0 0, 3, rfl, rfl, hB, ?_, fun hok => ?_, fun _ => rfl⟩
        · show Value.tuple #[.slice (slP (-1) 0) 0 0, .int .i64 (q3.i 67)] = _
          rw [e67]; rfl
        · show Value.tuple #[.slice (slP (-1) 0) 0 0, .int .i64 (q3.i 67)] = _
          rw [e67]; rfl
        · have := hok _ (List.getElem_mem hkr); omega
      · rw [if_neg hbig] at e67 hw3
        have hl4 := htl (by omega)
        have hE : endR (textBytes rows[k]) false = (textBytes rows[k], 0) := by unfold endR; rw [if_neg (by simp; omega)]
        have e67 : q3.i 67 = (endR (textBytes rows[k]) false).2 := e67
        have hw3 : OwB (q3.h 63) 5 (.slice (slP (q3.i 63) (q3.i 64)) (q3.i 65).toNat (q3.i 66).toNat) (endR (textBytes rows[k]) false).1 := hw3
        rw [hE] at e67 hw3
        refine ⟨fun h => absurd e67 h, fun _ => ?_⟩
        have hat := hw3.rd.at hn3.1 hn3.2.1 hn3.2.2.1
        have h65 : q3.i 65 = (textBytes rows[k]).length := hat.1
        obtain ⟨hok, hseg⟩ := seg_of (R := q3.h 63) (x := q3.i 63) (y := q3.i 64) (l := q3.i 65) (bs := textBytes rows[k]) h65 hn3.2.1 (hat.2.imp (·.2) id)
        rw [G3.i 53 (by omega), G3.i 54 (by omega), G3.i 55 (by omega), G3.h 56 (by omega)]
        have hOw : OwnsH (q.h 56) 5 1 (.slice (slP (q.i 53) 0) (q.i 54).toNat (q.i 55).toNat) (q.i 54).toNat (bys (packB (rows.take k))) := by
          have := hO
          unfold OwB at this
          rw [show (q.i 54).toNat = (packB (rows.take k)).length by omega] at this ⊢
          exact this
        refine ⟨⟨⟨_, hOw⟩, by omega, hok, by unfold maxLen; omega, by omega⟩, fun q4 g4 ⟨a1, a2, happ, _⟩ => ?_⟩
        have h2 := happ _ hOw
        rw [hseg] at h2
        have e65 : q4.i 65 = q3.i 65 := g4.i 65 (by omega)
        have e54 : q4.i 54 = q.i 54 := by rw [g4.i 54 (by omega), G3.i 54 (by omega)]
        have e50 : q4.i 50 = k := by rw [g4.i 50 (by omega), G3.i 50 (by omega), ek]
        have hpk := packB_take hr
        have hpl : (packB (rows.take (k + 1))).length = (packB (rows.take k)).length + (textBytes rows[k]).length := by rw [hpk, List.length_append]
        refine ⟨⟨k + 1, ?_, by omega, fun r hrm => ?_, a1, ?_, a2, ?_, by omega⟩, ?_⟩
        · show IntKind.i64.wrap (q4.i 50 + 1) = _
          rw [e50, IntWalk.i64_in _ (by omega)]; omega
        · rw [List.take_add_one, hr, Option.toList_some] at hrm
          rcases List.mem_append.1 hrm with h | h
          · exact h4k r h
          · rw [List.mem_singleton] at h; subst h; omega
        · show q4.i 54 + q4.i 65 = _
          rw [e54, e65]; omega
        · show OwB (q4.h 68) _ (.slice (slP (q4.i 68) 0) (q4.i 54 + q4.i 65).toNat (q4.i 69).toNat) _
          unfold OwB
          rw [e54, e65, hpk, bys_append, List.length_append]
          have ea : (q.i 54).toNat + (q3.i 65).toNat = (packB (rows.take k)).length + (textBytes rows[k]).length := by omega
          have eb : (q.i 54 + q3.i 65).toNat = (packB (rows.take k)).length + (textBytes rows[k]).length := by omega
          rw [ea] at h2
          rw [eb]
          exact h2
        · show ((rows.length : Int) - IntKind.i64.wrap (q4.i 50 + 1)).toNat < _
          rw [e50, IntWalk.i64_in _ (by omega)]; omega
    · have hke : k = rows.length := by omega
      subst hke
      rw [List.take_length] at h4k y54 hO
      intro _
      refine ⟨[], [2], rfl, rfl, ⟨⟨fun j => [q.i 53, 0, q.i 54, q.i 55, 0].getD j 0, fun _ => false, fun _ => .empty, fun _ => .tuple #[], fun _ => Hl.none⟩, rfl, ⟨x53, Int.le_refl _, by show 0 ≤ q.i 54; omega, x55⟩, trivial, trivial⟩, _, R, RA, rows, .slice (slP (q.i 53) 0) (q.i 54).toNat (q.i 55).toNat, 0, rfl, rfl, hB, rfl, fun _ => ⟨rfl, ?_⟩, fun hno => absurd h4k hno⟩
      show OwB (hls [q.h 56]) _ _ _
      rw [hls_one]; exact hO
end Go.Proofs.YtomdimlnggpgbaaDoor
namespace Go.Sx
open Go
theorem bytesOf_data : ∀ (ns : List Int) (r : ByteArray), (ns.foldl (fun r n => r.push (UInt8.ofNat n.toNat)) r).data.toList = r.data.toList ++ ns.map fun n => UInt8.ofNat n.toNat
  | [], r => by simp
  | n :: ns, r => by
    rw [List.foldl_cons, bytesOf_data ns]
    show (r.data.push _).toList ++ _ = _
    rw [Array.toList_push, List.append_assoc]; rfl
theorem bytesOf_inj : ∀ {a b : List Int}, (∀ z ∈ a, 0 ≤ z ∧ z < 256) → (∀ z ∈ b, 0 ≤ z ∧ z < 256) → bytesOf a = bytesOf b → a = b := by
  have key : ∀ (a b : List Int), (∀ z ∈ a, 0 ≤ z ∧ z < 256) → (∀ z ∈ b, 0 ≤ z ∧ z < 256) → (a.map fun n => UInt8.ofNat n.toNat) = (b.map fun n => UInt8.ofNat n.toNat) → a = b := by
    intro a
    induction a with
    | nil => intro b _ _ h; cases b with
      | nil => rfl
      | cons y b => cases h
    | cons x a ih =>
      intro b ha hb h
      cases b with
      | nil => cases h
      | cons y b =>
        rw [List.map_cons, List.map_cons, List.cons.injEq] at h
        have hx := ha x (List.mem_cons_self ..)
        have hy := hb y (List.mem_cons_self ..)
        have e := congrArg UInt8.toNat h.1
        rw [UInt8.toNat_ofNat', UInt8.toNat_ofNat'] at e
        have : x = y := by omega
        subst this
        rw [ih b (fun z h => ha z (List.mem_cons_of_mem _ h)) (fun z h => hb z (List.mem_cons_of_mem _ h)) h.2]
  intro a b ha hb h
  have := congrArg (fun x : ByteArray => x.data.toList) h
  unfold bytesOf at this
  simp only [bytesOf_data] at this
  exact key a b ha hb (by simpa using this)
end Go.Sx
namespace Go.Proofs.YtomdimlnggpgbaaDoor
open Go Go.Sx Go.Pk
def TakeI (bs : List Int) (n : Nat) (x p : Int) : Prop := n ≤ bs.length ∧ ((n ≤ 9 ∧ ∃ y : Nat, numAt bs = numGo (bs.drop n) n y ∧ x = y ∧ y < 128 ^ n ∧ p = ((128 ^ n : Nat) : Int)) ∨ (n = 10 ∧ numAt bs = none))
theorem TakeI.start (bs : List Int) : TakeI bs 0 0 1 := ⟨Nat.zero_le _, Or.inl ⟨by decide, 0, rfl, rfl, by decide, rfl⟩⟩
theorem wrap_u64 {n : Int} (h0 : 0 ≤ n) (h1 : n < 18446744073709551616) : IntKind.u64.wrap n = n := Int.emod_eq_of_lt h0 h1
theorem pow_le9 {n : Nat} (h : n ≤ 9) : 128 ^ n ≤ 9223372036854775808 := by
  rw [← pow63]; exact Nat.pow_le_pow_right (by decide) h
theorem pow_le8 {n : Nat} (h : n ≤ 8) : 128 ^ n ≤ 72057594037927936 := by
  have : (128 : Nat) ^ 8 = 72057594037927936 := by decide
  rw [← this]; exact Nat.pow_le_pow_right (by decide) h
def takeX (x p c : Int) : Int := IntKind.u64.wrap (x + IntKind.u64.wrap (IntKind.u64.wrap (c.tmod 128) * p))
theorem takeX_eq {y n : Nat} {c : Int} (hc : 0 ≤ c ∧ c < 256) (hn : n ≤ 8) (hy : y < 128 ^ n) : takeX y ((128 ^ n : Nat) : Int) c = ((y + c.toNat % 128 * 128 ^ n : Nat) : Int) ∧ y + c.toNat % 128 * 128 ^ n < 128 ^ (n + 1) := by
  have hp := pow_le8 hn
  have e1 : c.tmod 128 = ((c.toNat % 128 : Nat) : Int) := by rw [Int.tmod_eq_emod_of_nonneg hc.1]; omega
  have hm : c.toNat % 128 * 128 ^ n ≤ 127 * 128 ^ n := Nat.mul_le_mul_right _ (by omega)
  have hlt : y + c.toNat % 128 * 128 ^ n < 128 ^ (n + 1) := by rw [Nat.pow_succ]; omega
  refine ⟨?_, hlt⟩
  have e2 : ((c.toNat % 128 : Nat) : Int) * ((128 ^ n : Nat) : Int) = ((c.toNat % 128 * 128 ^ n : Nat) : Int) := by rw [Int.natCast_mul]
  have e3 : IntKind.u64.wrap ((c.toNat % 128 : Nat) : Int) = ((c.toNat % 128 : Nat) : Int) := wrap_u64 (by omega) (by omega)
  unfold takeX
  rw [e1, e3, e2]
  generalize c.toNat % 128 * 128 ^ n = m at hm hlt
  have e4 : IntKind.u64.wrap (m : Int) = m := wrap_u64 (by omega) (by omega)
  rw [e4, wrap_u64 (by omega) (by omega)]
  rfl
theorem numGo_at {l : List Int} {n y : Nat} {c : Int} : numGo (c :: l) n y = if (n = 9 ∧ 1 < c) ∨ 9 < n then none else if c < 128 then (if c = 0 ∧ 0 < n then none else some (y + c.toNat * 128 ^ n, n + 1)) else numGo l (n + 1) (y + (c.toNat % 128) * 128 ^ n) := rfl
theorem TakeI.more {bs : List Int} {n : Nat} {x p c : Int} (hb : bytes256 bs) (h : TakeI bs n x p) (hn : n < 10) (hc : bs[n]? = some c) (h128 : ¬ c < 128) : TakeI bs (n + 1) (takeX x p c) (IntKind.u64.wrap (p * 128)) := by
  obtain ⟨hl, h⟩ := h
  have hlt := (List.getElem?_eq_some_iff.1 hc).1
  have hcb := hb c (List.mem_of_getElem? hc)
  have hd : bs.drop n = c :: bs.drop (n + 1) := by
    rw [List.drop_eq_getElem_cons hlt]
    rw [List.getElem?_eq_getElem hlt] at hc
    rw [Option.some.inj hc]
  rcases h with ⟨h9, y, e, rfl, hy, rfl⟩ | ⟨h10, _⟩
  · rw [hd, numGo_at] at e
    refine ⟨by omega, ?_⟩
    by_cases h8 : n ≤ 8
    · rw [if_neg (by omega), if_neg h128] at e
      obtain ⟨e1, e2⟩ := takeX_eq hcb h8 hy
      refine Or.inl ⟨by omega, _, e, e1, e2, ?_⟩
      have hp := pow_le8 h8
      rw [wrap_u64 (by omega) (by omega), Nat.pow_succ, Int.natCast_mul]; rfl
    · rw [if_pos (by omega)] at e
      exact Or.inr ⟨by omega, e⟩
  · omega
theorem TakeI.last {bs : List Int} {n : Nat} {x p c : Int} (hb : bytes256 bs) (h : TakeI bs n x p) (hn : n < 10) (hc : bs[n]? = some c) (h128 : c < 128) :
    (numB (takeX x p c).toNat = bs.take (n + 1) → numR bs = ((takeX x p c).toNat, n + 1)) ∧ (numB (takeX x p c).toNat ≠ bs.take (n + 1) → numR bs = (0, 0)) ∧ 0 ≤ takeX x p c ∧ takeX x p c < 18446744073709551616 := by
  obtain ⟨hl, h⟩ := h
  have hlt := (List.getElem?_eq_some_iff.1 hc).1
  have hcb := hb c (List.mem_of_getElem? hc)
  have hr : 0 ≤ takeX x p c ∧ takeX x p c < 18446744073709551616 := ⟨Int.emod_nonneg _ (by decide), Int.emod_lt_of_pos _ (by decide)⟩
  have hd : bs.drop n = c :: bs.drop (n + 1) := by
    rw [List.drop_eq_getElem_cons hlt]
    rw [List.getElem?_eq_getElem hlt] at hc
    rw [Option.some.inj hc]
  refine ⟨fun he => ?_, fun hne => ?_, hr⟩
  · have hbs : bs = numB (takeX x p c).toNat ++ bs.drop (n + 1) := by rw [he, List.take_append_drop]
    have := numAt_enc (x := (takeX x p c).toNat) (by omega) (bs.drop (n + 1))
    rw [← hbs] at this
    unfold numR
    rw [this, he, List.length_take]
    show (_, min (n + 1) bs.length) = _
    rw [Nat.min_eq_left (by omega)]
  · have hno : numAt bs = none := by
      cases hA : numAt bs with
      | none => rfl
      | some zm =>
        exfalso
        obtain ⟨z, m⟩ := zm
        obtain ⟨d1, d2, d3, d4⟩ := numAt_dec hb hA
        rcases h with ⟨h9, y, e, rfl, hy, rfl⟩ | ⟨h10, _⟩
        · rw [hd, numGo_at, hA] at e
          split at e
          · cases e
          · rename_i hg
            split at e
            · cases e
            · simp only [Option.some.injEq, Prod.mk.injEq] at e
              obtain ⟨rfl, rfl⟩ := e
              apply hne
              rw [d3]
              congr 1
              have hp := pow_le9 h9
              have e1 : c.tmod 128 = ((c.toNat : Nat) : Int) := by rw [Int.tmod_eq_emod_of_nonneg hcb.1]; omega
              have hm : c.toNat * 128 ^ n < 18446744073709551616 := by omega
              have e2 : ((c.toNat : Nat) : Int) * ((128 ^ n : Nat) : Int) = ((c.toNat * 128 ^ n : Nat) : Int) := by rw [Int.natCast_mul]
              have e3 : IntKind.u64.wrap ((c.toNat : Nat) : Int) = ((c.toNat : Nat) : Int) := wrap_u64 (by omega) (by omega)
              unfold takeX
              rw [e1, e3, e2]
              generalize c.toNat * 128 ^ n = m at hm d4
              have e4 : IntKind.u64.wrap (m : Int) = m := wrap_u64 (by omega) (by omega)
              rw [e4, wrap_u64 (by omega) (by omega)]
              omega
        · omega
    unfold numR
    rw [hno]; rfl
theorem TakeI.stop {bs : List Int} {n : Nat} {x p : Int} (h : TakeI bs n x p) (he : n = bs.length ∨ 10 ≤ n) : numR bs = (0, 0) := by
  obtain ⟨hl, h⟩ := h
  have : numAt bs = Option.none := by
    rcases h with ⟨h9, y, e, _⟩ | ⟨_, h⟩
    · rw [e, List.drop_of_length_le (by omega)]; rfl
    · exact h
  unfold numR
  rw [this]; rfl
theorem RdW.textQ {R : Hl} {x y l c : Int} {bs : List Int} [Decidable (x = -1)] (h : RdW R (.slice (slP x y) l.toNat c.toNat) bs) (hy : 0 ≤ y) (hl : 0 ≤ l) :
    (x = -1 ∨ l = 0 ∨ 0 ≤ x ∧ 0 ≤ y ∧ cellBytes R x.toNat y.toNat l.toNat = true) ∧ (if x = -1 then (⟨#[]⟩ : ByteArray) else bytesOf (cellInts R x.toNat y.toNat l.toNat)) = bytesOf bs := by
  obtain ⟨x', y', c', he, hy', h⟩ := h
  simp only [Value.slice.injEq] at he
  obtain ⟨hp, he, _⟩ := he
  rcases h with rfl | ⟨h0, h⟩
  · have e : l = 0 := by
      have := he
      simp at this
      omega
    subst e
    refine ⟨Or.inr (Or.inl rfl), ?_⟩
    split <;> rfl
  · obtain ⟨rfl, rfl⟩ := slP_eqS h0 hy' hy hp
    refine ⟨Or.inr (Or.inr ⟨h0, hy, cells_bytes h (by omega)⟩), ?_⟩
    rw [if_neg (by omega), he, cells_ints h]
def takeS : Sx.Spec where
  fn := 79
  own := []
  rd := [0]
  res := [.one (.int .u64), .one (.int .i64)]
  pre := fun xs Hs Rs => ∃ (x y : Int) (c : Nat) (bs : List Int) (R : Hl), xs = [.slice (slP x y) bs.length c] ∧ Rs = [R] ∧ RdW R (.slice (slP x y) bs.length c) bs ∧ 0 ≤ y ∧ bs.length ≤ c ∧ bytes256 bs ∧ bs.length ≤ 1000000
  post := fun xs Hs Rs v Hs' F => ∃ (u : Value) (bs : List Int) (R : Hl), xs = [u] ∧ Rs = [R] ∧ RdW R u bs ∧ v = .tuple #[.int .u64 ((numR bs).1 : Nat), .int .i64 ((numR bs).2 : Nat)]
def tkΓ5 : List Sx.Spec := [rnumS]
theorem tkΓ5_ok : ∀ t ∈ tkΓ5, t.OK Tryd.prog := fun t ht => by
  simp only [tkΓ5, List.mem_cons, List.mem_nil_iff, or_false] at ht
  rw [ht]; exact rnumS_ok
def takeNd5 : Nd := .and (.inv 0 [⟨50, 0, .int .i64 (.lit 0)⟩, ⟨51, 0, .int .i64 (.lit 1)⟩, ⟨52, 0, .int .i64 (.lit 0)⟩] []) (.havoc 0 0 5 (.and (.e (.le (.lit 0) (.var 2))) (.and (.imp (.lt (.var 52) (.var 2)) (.and (.imp (.lt (.var 52) (.lit 10)) (.and (.e (.le (.lit 0) (.var 0))) (.and (.e (.le (.lit 0) (.var 1))) (.and (.e (.le (.lit 0) (.var 52))) (.and (.e (.his 4 (.var 0) (.add (.var 1) (.var 52)) 0 (.int .u8))) (.and (.imp (.lt (.hI 4 (.var 0) (.add (.var 1) (.var 52)) 0) (.lit 128)) (.and (.e (.le (.lit 0) (.wrap .i64 (.add (.var 52) (.lit 1))))) (.and (.e (.le (.wrap .i64 (.add (.var 52) (.lit 1))) (.var 3))) (.and (.e (.or (.eq (.var 0) (.lit (-1))) (.or (.eq (.wrap .i64 (.add (.var 52) (.lit 1))) (.lit 0)) (.and (.le (.lit 0) (.var 0)) (.and (.le (.lit 0) (.var 1)) (.hby 4 (.var 0) (.var 1) (.wrap .i64 (.add (.var 52) (.lit 1))))))))) (.and (.pre (.call 0 60 [.sv (.one (.int .u64 (.wrap .u64 (.add (.var 50) (.wrap .u64 (.mul (.wrap .u64 (.rem (.hI 4 (.var 0) (.add (.var 1) (.var 52)) 0) (.lit 128))) (.var 51)))))))] [] [])) (.ext (.call 0 60 [.sv (.one (.int .u64 (.wrap .u64 (.add (.var 50) (.wrap .u64 (.mul (.wrap .u64 (.rem (.hI 4 (.var 0) (.add (.var 1) (.var 52)) 0) (.lit 128))) (.var 51)))))))] [] []) (.and (.e (.or (.eq (.var 60) (.lit (-1))) (.or (.eq (.var 62) (.lit 0)) (.and (.le (.lit 0) (.var 60)) (.and (.le (.lit 0) (.var 61)) (.hby 60 (.var 60) (.var 61) (.var 62))))))) (.and (.imp (.seq (.ite (.eq (.var 60) (.lit (-1))) (.slit ⟨#[]⟩) (.sof 60 (.var 60) (.var 61) (.var 62))) (.ite (.eq (.var 0) (.lit (-1))) (.slit ⟨#[]⟩) (.sof 4 (.var 0) (.var 1) (.wrap .i64 (.add (.var 52) (.lit 1)))))) (.post [.ro 4 [.var 0] true, .hp 60 [] [.var 60] []] (.tup [.one (.int .u64 (.wrap .u64 (.add (.var 50) (.wrap .u64 (.mul (.wrap .u64 (.rem (.hI 4 (.var 0) (.add (.var 1) (.var 52)) 0) (.lit 128))) (.var 51)))))), .one (.int .i64 (.wrap .i64 (.add (.var 52) (.lit 1))))]))) (.imp (.not (.seq (.ite (.eq (.var 60) (.lit (-1))) (.slit ⟨#[]⟩) (.sof 60 (.var 60) (.var 61) (.var 62))) (.ite (.eq (.var 0) (.lit (-1))) (.slit ⟨#[]⟩) (.sof 4 (.var 0) (.var 1) (.wrap .i64 (.add (.var 52) (.lit 1))))))) (.post [.ro 4 [.var 0] true, .hp 60 [] [.var 60] []] (.tup [.one (.int .u64 (.lit 0)), .one (.int .i64 (.lit 0))]))))))))))) (.imp (.not (.lt (.hI 4 (.var 0) (.add (.var 1) (.var 52)) 0) (.lit 128))) (.back 0 0 [⟨50, 0, .int .i64 (.wrap .u64 (.add (.var 50) (.wrap .u64 (.mul (.wrap .u64 (.rem (.hI 4 (.var 0) (.add (.var 1) (.var 52)) 0) (.lit 128))) (.var 51)))))⟩, ⟨51, 0, .int .i64 (.wrap .u64 (.mul (.var 51) (.lit 128)))⟩, ⟨52, 0, .int .i64 (.wrap .i64 (.add (.var 52) (.lit 1)))⟩] [])))))))) (.imp (.not (.lt (.var 52) (.lit 10))) (.post [.ro 4 [.var 0] true] (.tup [.one (.int .u64 (.lit 0)), .one (.int .i64 (.lit 0))]))))) (.imp (.not (.lt (.var 52) (.var 2))) (.post [.ro 4 [.var 0] true] (.tup [.one (.int .u64 (.lit 0)), .one (.int .i64 (.lit 0))]))))))
def takeW5 : Walk Tryd.prog tkΓ5 takeS.fn where
  Λ := fun p => if lp0 p then some ⟨0, [(4, TI .u64 (.var 50)), (5, TI .u64 (.var 51)), (6, TI .i64 (.var 52))], [], 60⟩ else none
  args := [.sv (.one (.sl (.var 0) (.var 1) (.var 2) (.var 3)))]
  mem := [.ro 4 [.var 0] true]
  nv := 5
  nd := takeNd5
  ok := by kernel_rfl
theorem tk5g0 : tkΓ5[0]? = some rnumS := rfl
theorem tk5r0 : rnumS.res = [.one .sl] := rfl
theorem rsl5 (n : Nat) : (cpRoots n [Cp.one .sl] ≠ []) = True := by simp [cpRoots, Cp.roots, Ck.root]
theorem takeS_ok : takeS.OK Tryd.prog := by
  refine Spec.of_fn (Γ := tkΓ5) tkΓ5_ok ?_
  rintro xs Hs Rs hl1 hl2 ⟨x, y, c, bs, R, rfl, rfl, hRd, hy, hcap, hby, hlen⟩
  have e0 : Hs = [] := List.length_eq_zero_iff.1 hl1
  subst e0
  refine ⟨takeW5, envI [x, y, bs.length, c] false [Hl.none, Hl.none, Hl.none, Hl.none, R], fun _ q => ∃ n : Nat, q.i 52 = n ∧ TakeI bs n (q.i 50) (q.i 51), fun _ q => (bs.length - q.i 52).toNat, ?_, ⟨?_, ?_, ?_, ?_⟩, (fun _ h => nomatch h), ?_⟩
  · show [Value.slice (slP x y) ((bs.length : Int)).toNat ((c : Int)).toNat] = _
    rw [Int.toNat_natCast, Int.toNat_natCast]
  · intro r hr ho; simp [takeW5] at hr; subst hr; cases ho
  · intro r hr ho; simp [takeW5] at hr; subst hr; exact ⟨R, by simp, Hl.le_refl _⟩
  · simp [takeW5]
  · intro r hr; simp [takeW5] at hr; subst hr; trivial
  · show Nd.holds _ _ _ takeNd5
    generalize hρ : envI [x, y, bs.length, c] false [Hl.none, Hl.none, Hl.none, Hl.none, R] = ρ
    have v0 : ρ.i 0 = x := by rw [← hρ]; rfl
    have v1 : ρ.i 1 = y := by rw [← hρ]; rfl
    have v2 : ρ.i 2 = bs.length := by rw [← hρ]; rfl
    have v3 : ρ.i 3 = c := by rw [← hρ]; rfl
    have w4 : ρ.h 4 = R := by rw [← hρ]; rfl
    clear hρ
    have out : ∀ {q : Env} {mem : Mem} {e f : E} {a b : Nat}, numR bs = (a, b) → iev q e = a → iev q f = b → postOf takeS [.slice (slP x y) bs.length c] [] [R] q mem (.tup [.one (.int .u64 e), .one (.int .i64 f)]) := by
      intro q mem e f a b hn he hf _
      refine ⟨[], [], rfl, rfl, ⟨⟨fun j => [(a : Int), b].getD j 0, fun _ => false, fun _ => .empty, fun _ => .tuple #[], fun _ => Hl.none⟩, ?_, trivial, trivial, trivial⟩, _, bs, R, rfl, rfl, hRd, ?_⟩
      · show Value.tuple #[.int .u64 (iev q e), .int .i64 (iev q f)] = _
        rw [he, hf]; rfl
      · show Value.tuple #[.int .u64 (iev q e), .int .i64 (iev q f)] = _
        rw [he, hf, hn]
    unfold takeNd5
    simp only [Nd.holds, X.pre, X.rel, X.n, Src.ok, Src.len, Src.vals, true_and, and_true, if_true, Nat.mul_one, Nat.add_zero, Nat.reduceAdd, List.length_cons, List.length_nil, bT_tt, bT_ff, bT_bvar, bT_not, bT_and, bT_or, bT_ite, bT_lt, bT_le, bT_eq, bT_beq, bT_seq, bT_hB, bT_his, bT_hby, bT_hism, bT_hks, iev_lit, iev_var, iev_add, iev_sub, iev_mul, iev_wrap, iev_ite, iev_hI, iev_hP, iev_hmlen, sev_ite, sev_slit, sev_sof, sev_svar, TV.ev, SV.ev, CV.ev, List.map_cons, List.map_nil, Res.hl, cpTV, Cp.sv, Ck.cv, cpSVs, Cp.len, Ck.len, newHs_zero, newHs_one, roots_ne, tk5g0, tk5r0, rsl5]
    refine ⟨⟨0, rfl, TakeI.start bs⟩, fun q g ⟨n, en, hI⟩ => ?_⟩
    rw [g.i 0 (by omega), g.i 1 (by omega), g.i 2 (by omega), g.i 3 (by omega), g.h 4 (by omega), v0, v1, v2, v3, w4, en]
    refine ⟨by omega, fun hlt => ⟨fun h10 => ?_, fun h10 => out (hI.stop (Or.inr (by omega))) rfl rfl⟩, fun hge => out (hI.stop (Or.inl (by have := hI.1; omega))) rfl rfl⟩
    have hnl : n < bs.length := by omega
    have hcn : bs[n]? = some bs[n] := List.getElem?_eq_getElem hnl
    have hx : 0 ≤ x ∧ ∀ j z, bs[j]? = some z → R.cell x.toNat (y.toNat + j) = some (.int .u8 z) := by
      obtain ⟨x', y', c', he, hy', hcells⟩ := id hRd
      rcases hcells with h | ⟨h0, h⟩
      · rw [h] at hnl; cases hnl
      · simp only [Value.slice.injEq] at he
        obtain ⟨rfl, rfl⟩ := slP_eqS h0 hy' hy he.1
        exact ⟨h0, h⟩
    obtain ⟨hx0, hcell⟩ := hx
    have hck : R.cell x.toNat (y + (n : Int)).toNat = some (.int .u8 bs[n]) := by rw [show (y + (n : Int)).toNat = y.toNat + n by omega]; exact hcell _ _ hcn
    have wn : IntKind.i64.wrap ((n : Int) + 1) = n + 1 := IntWalk.i64_in _ (by omega)
    have hrem : ∀ q' : Env, Agree 60 q q' → iev q' ((E.hI 4 (.var 0) ((E.var 1).add (.var 52)) 0).rem (.lit 128)) = bs[n].tmod 128 := by
      intro q' hg
      show (valI ((q'.h 4).cell (q'.i 0).toNat (q'.i 1 + q'.i 52).toNat)).tmod 128 = _
      rw [hg.h 4 (by omega), hg.i 0 (by omega), hg.i 1 (by omega), hg.i 52 (by omega), g.h 4 (by omega), g.i 0 (by omega), g.i 1 (by omega), v0, v1, w4, en, hck]; rfl
    rw [hck, wn, hrem q (Agree.refl _ _)]
    refine ⟨hx0, hy, by omega, rfl, fun h128 => ?_, fun h128 => ?_⟩
    · have h128 : bs[n] < 128 := h128
      obtain ⟨t1, t2, t3⟩ := hI.last hby (by omega) hcn h128
      have hTk : RdW R (.slice (slP x y) ((n : Int) + 1).toNat ((n : Int) + 1).toNat) (bs.take (n + 1)) := by
        refine ⟨x, y, n + 1, ?_, hy, Or.inr ⟨hx0, fun j z hz => ?_⟩⟩
        · rw [List.length_take, Nat.min_eq_left (by omega), show ((n : Int) + 1).toNat = n + 1 by omega]
        · rw [List.getElem?_take] at hz
          split at hz
          · exact hcell _ _ hz
          · cases hz
      obtain ⟨p1, p2⟩ := RdW.textQ hTk hy (by omega)
      refine ⟨by omega, by omega, p1, ⟨_, rfl, t3.1, t3.2⟩, fun q2 g2 ⟨F2, ⟨z, ez, hO⟩, hF2, hn2⟩ => ?_⟩
      have ez : takeX (q.i 50) (q.i 51) bs[n] = z := by
        have h : Value.int .u64 (takeX (q.i 50) (q.i 51) bs[n]) = .int .u64 z := (List.cons.inj ez).1
        simpa using h
      subst ez
      rw [← hF2 trivial] at hO
      have hn2 : -1 ≤ q2.i 60 ∧ 0 ≤ q2.i 61 ∧ 0 ≤ q2.i 62 ∧ 0 ≤ q2.i 63 := hn2.1
      obtain ⟨s1, s2⟩ := RdW.textQ hO.rd.w hn2.2.1 hn2.2.2.1
      have e2n : q2.i 52 = n := by rw [g2.i 52 (by omega), en]
      have a0 : q2.i 0 = x := by rw [g2.i 0 (by omega), g.i 0 (by omega), v0]
      have a1 : q2.i 1 = y := by rw [g2.i 1 (by omega), g.i 1 (by omega), v1]
      have a4 : q2.h 4 = R := by rw [g2.h 4 (by omega), g.h 4 (by omega), w4]
      rw [s2, e2n, wn, a0, a1, a4, p2]
      have hnb : bytes256 (numB (takeX (q.i 50) (q.i 51) bs[n]).toNat) := numB_byte _
      have htb : bytes256 (bs.take (n + 1)) := fun z hz => hby z (List.mem_of_mem_take hz)
      refine ⟨s1, fun he => out (t1 (bytesOf_inj hnb htb he)) ?_ ?_, fun hne => out (t2 fun e => hne (congrArg bytesOf e)) rfl rfl⟩
      · show IntKind.u64.wrap (q2.i 50 + IntKind.u64.wrap (IntKind.u64.wrap (iev q2 ((E.hI 4 (.var 0) ((E.var 1).add (.var 52)) 0).rem (.lit 128))) * q2.i 51)) = _
        rw [hrem q2 g2, g2.i 50 (by omega), g2.i 51 (by omega)]
        show takeX (q.i 50) (q.i 51) bs[n] = _
        omega
      · show IntKind.i64.wrap (q2.i 52 + 1) = _
        rw [e2n, wn]; rfl
    · refine ⟨⟨n + 1, ?_, ?_⟩, ?_⟩
      · show IntKind.i64.wrap (q.i 52 + 1) = _
        rw [en, wn]; rfl
      · show TakeI bs (n + 1) (IntKind.u64.wrap (q.i 50 + IntKind.u64.wrap (IntKind.u64.wrap (iev q ((E.hI 4 (.var 0) ((E.var 1).add (.var 52)) 0).rem (.lit 128))) * q.i 51))) (IntKind.u64.wrap (q.i 51 * 128))
        rw [hrem q (Agree.refl _ _)]
        exact hI.more hby (by omega) hcn h128
      · show ((bs.length : Int) - IntKind.i64.wrap (q.i 52 + 1)).toNat < _
        rw [en, wn]; omega
end Go.Proofs.YtomdimlnggpgbaaDoor
namespace Go.Proofs.YtomdimlnggpgbaaDoor
open Go Go.Sx Go.Pk
theorem tx_bad {bs : List Int} : (tx bs).2.2 = true ↔ ((numR bs).2 = 0 ∨ (4096 : Int) < (numR bs).1 ∨ (bs.length : Int) - (numR bs).2 < ((numR bs).1 : Int)) := by
  unfold tx inText
  split
  · rename_i h
    refine ⟨fun _ => ?_, fun _ => rfl⟩
    simp only [Bool.false_eq_true, false_or] at h
    omega
  · rename_i h
    refine ⟨fun e => (by cases e), fun e => absurd ?_ h⟩
    simp only [Bool.false_eq_true, false_or]
    omega
theorem tx_good {bs : List Int} (h : (tx bs).2.2 = false) : tx bs = ((bs.drop (numR bs).2).take (numR bs).1, bs.drop ((numR bs).2 + (numR bs).1), false) := by
  unfold tx inText at h ⊢
  split
  · rename_i hc
    rw [if_pos hc] at h; cases h
  · rfl
def part1 : Value := .agg #[.int .u8 1, .int .u64 4096, .slice none 0 0]
def gotS : Sx.Spec where
  fn := 42
  own := []
  rd := [3000000]
  res := [.one (.int .u64), .one .sl, .one (.int .i64)]
  pre := fun xs Hs Rs => ∃ (x y : Int) (c : Nat) (bs : List Int) (R : Hl), xs = [.slice (slP x y) bs.length c, part1] ∧ Rs = [R] ∧ RdW R (.slice (slP x y) bs.length c) bs ∧ -1 ≤ x ∧ 0 ≤ y ∧ bs.length ≤ c ∧ bytes256 bs ∧ bs.length ≤ 1000000
  post := fun xs Hs Rs v Hs' F => ∃ (u : Value) (bs : List Int) (R : Hl) (t : Value) (n : Int), xs = [u, part1] ∧ Rs = [R] ∧ RdW R u bs ∧ v = .tuple #[.int .u64 0, t, .int .i64 n] ∧ ((tx bs).2.2 = true → n = -1) ∧ ((tx bs).2.2 = false → n = ((numR bs).2 + (numR bs).1 : Nat) ∧ RdW R t (tx bs).1)
def gtΓ : List Sx.Spec := [takeS]
theorem gtΓ_ok : ∀ t ∈ gtΓ, t.OK Tryd.prog := fun t ht => by
  simp only [gtΓ, List.mem_cons, List.mem_nil_iff, or_false] at ht
  rw [ht]; exact takeS_ok
def gotNd : Nd := .ext (.alloc 5) (.and (.pre (.call 0 6 [.sv (.one (.sl (.var 0) (.var 1) (.var 2) (.var 3)))] [] [.ro 4 [.var 0] true])) (.ext (.call 0 6 [.sv (.one (.sl (.var 0) (.var 1) (.var 2) (.var 3)))] [] [.ro 4 [.var 0] true]) (.and (.imp (.not (.eq (.var 7) (.lit 0))) (.and (.imp (.not (.lt (.lit 4096) (.var 6))) (.and (.e (.le (.lit 0) (.var 2))) (.and (.imp (.lt (.wrap .u64 (.wrap .i64 (.sub (.var 2) (.var 7)))) (.var 6)) (.post [.ro 4 [.var 0] true, .dead] (.tup [.one (.int .u64 (.lit 0)), .one (.sl (.lit (-1)) (.lit 0) (.lit 0) (.lit 0)), .one (.int .i64 (.lit (-1)))]))) (.imp (.not (.lt (.wrap .u64 (.wrap .i64 (.sub (.var 2) (.var 7)))) (.var 6))) (.and (.e (.le (.lit (-1)) (.var 0))) (.and (.e (.le (.lit 0) (.var 1))) (.and (.e (.le (.lit 0) (.var 7))) (.and (.e (.le (.var 7) (.wrap .i64 (.add (.var 7) (.wrap .i64 (.var 6)))))) (.and (.e (.le (.wrap .i64 (.add (.var 7) (.wrap .i64 (.var 6)))) (.var 3))) (.post [.ro 4 [.var 0] true, .dead] (.tup [.one (.int .u64 (.lit 0)), .one (.sl (.var 0) (.ite (.eq (.var 3) (.var 7)) (.var 1) (.add (.var 1) (.var 7))) (.sub (.wrap .i64 (.add (.var 7) (.wrap .i64 (.var 6)))) (.var 7)) (.sub (.var 3) (.var 7))), .one (.int .i64 (.wrap .i64 (.add (.var 7) (.wrap .i64 (.var 6)))))]))))))))))) (.imp (.lt (.lit 4096) (.var 6)) (.post [.ro 4 [.var 0] true, .dead] (.tup [.one (.int .u64 (.lit 0)), .one (.sl (.lit (-1)) (.lit 0) (.lit 0) (.lit 0)), .one (.int .i64 (.lit (-1)))]))))) (.imp (.eq (.var 7) (.lit 0)) (.post [.ro 4 [.var 0] true, .dead] (.tup [.one (.int .u64 (.lit 0)), .one (.sl (.lit (-1)) (.lit 0) (.lit 0) (.lit 0)), .one (.int .i64 (.lit (-1)))]))))))
def gotW : Walk Tryd.prog gtΓ gotS.fn where
  Λ := noLoops
  args := [.sv (.one (.sl (.var 0) (.var 1) (.var 2) (.var 3))), .sv (.agg [.int .u8 (.lit 1), .int .u64 (.lit 4096), .sl (.lit (-1)) (.lit 0) (.lit 0) (.lit 0)])]
  mem := [.ro 4 [.var 0] true]
  nv := 5
  nd := gotNd
  ok := by kernel_rfl
theorem gtg0 : gtΓ[0]? = some takeS := rfl
theorem gtr0 : takeS.res = [.one (.int .u64), .one (.int .i64)] := rfl
theorem gotS_ok : gotS.OK Tryd.prog := by
  refine Spec.of_fn (Γ := gtΓ) gtΓ_ok ?_
  rintro xs Hs Rs hl1 hl2 ⟨x, y, c, bs, R, rfl, rfl, hRd, hx, hy, hcap, hby, hlen⟩
  have e0 : Hs = [] := List.length_eq_zero_iff.1 hl1
  subst e0
  refine ⟨gotW, envI [x, y, bs.length, c] false [Hl.none, Hl.none, Hl.none, Hl.none, R], fun _ _ => True, fun _ _ => 0, ?_, ⟨?_, ?_, ?_, ?_⟩, (fun _ h => nomatch h), ?_⟩
  · show [Value.slice (slP x y) ((bs.length : Int)).toNat ((c : Int)).toNat, part1] = _
    rw [Int.toNat_natCast, Int.toNat_natCast]
  · intro r hr ho; simp [gotW] at hr; subst hr; cases ho
  · intro r hr ho; simp [gotW] at hr; subst hr; exact ⟨R, by simp, Hl.le_refl _⟩
  · simp [gotW]
  · intro r hr; simp [gotW] at hr; subst hr; trivial
  · show Nd.holds _ _ _ gotNd
    generalize hρ : envI [x, y, bs.length, c] false [Hl.none, Hl.none, Hl.none, Hl.none, R] = ρ
    have v0 : ρ.i 0 = x := by rw [← hρ]; rfl
    have v1 : ρ.i 1 = y := by rw [← hρ]; rfl
    have v2 : ρ.i 2 = bs.length := by rw [← hρ]; rfl
    have v3 : ρ.i 3 = c := by rw [← hρ]; rfl
    have w4 : ρ.h 4 = R := by rw [← hρ]; rfl
    clear hρ
    obtain ⟨m1, m2⟩ := numR_le hby
    have bad : ∀ (q : Env) (mem : Mem), (tx bs).2.2 = true → postOf gotS [.slice (slP x y) bs.length c, part1] [] [R] q mem (.tup [.one (.int .u64 (.lit 0)), .one (.sl (.lit (-1)) (.lit 0) (.lit 0) (.lit 0)), .one (.int .i64 (.lit (-1)))]) := by
      intro q mem hb _
      exact ⟨[], [], rfl, rfl, ⟨⟨fun j => [0, -1, 0, 0, 0, -1].getD j 0, fun _ => false, fun _ => .empty, fun _ => .tuple #[], fun _ => Hl.none⟩, rfl, trivial, ⟨Int.le_refl _, Int.le_refl _, Int.le_refl _, Int.le_refl _⟩, trivial, trivial⟩, _, bs, R, .slice none 0 0, -1, rfl, rfl, hRd, rfl, fun _ => rfl, fun h => by rw [hb] at h; cases h⟩
    unfold gotNd
    simp only [Nd.holds, X.pre, X.rel, X.n, Src.ok, Src.len, Src.vals, true_and, and_true, if_true, Nat.mul_one, Nat.add_zero, Nat.reduceAdd, List.length_cons, List.length_nil, bT_tt, bT_ff, bT_bvar, bT_not, bT_and, bT_or, bT_ite, bT_lt, bT_le, bT_eq, bT_beq, bT_seq, bT_hB, bT_his, bT_hby, bT_hism, bT_hks, iev_lit, iev_var, iev_add, iev_sub, iev_mul, iev_wrap, iev_ite, iev_hI, iev_hP, iev_hmlen, sev_ite, sev_slit, sev_sof, sev_svar, TV.ev, SV.ev, CV.ev, List.map_cons, List.map_nil, Res.hl, cpTV, Cp.sv, Ck.cv, cpSVs, Cp.len, Ck.len, newHs_zero, newHs_one, roots_ne, gtg0, gtr0]
    intro q1 g1 p5
    rw [g1.i 0 (by omega), g1.i 1 (by omega), g1.i 2 (by omega), g1.i 3 (by omega), g1.h 4 (by omega), v0, v1, v2, v3, w4, Int.toNat_natCast, Int.toNat_natCast]
    refine ⟨⟨x, y, c, bs, R, rfl, rfl, hRd, hy, hcap, hby, hlen⟩, fun q2 g2 ⟨F2, ⟨u', bs', R', e1, e2, hR', hv⟩, _⟩ => ?_⟩
    simp only [List.cons.injEq, and_true] at e1 e2
    subst e1 e2
    obtain rfl := hRd.uniq hR'
    simp only [Value.tuple.injEq, Array.mk.injEq, List.cons.injEq, Value.int.injEq, true_and, and_true] at hv
    obtain ⟨h6, h7⟩ := hv
    have G2 : Agree 5 ρ q2 := g1.trans (g2.mono (by omega))
    rw [h6, h7, G2.i 0 (by omega), G2.i 1 (by omega), G2.i 2 (by omega), G2.i 3 (by omega), v0, v1, v2, v3]
    refine ⟨fun hn0 => ⟨fun h4 => ⟨by omega, fun hlt => bad _ _ (tx_bad.2 ?_), fun hge => ?_⟩, fun h4 => bad _ _ (tx_bad.2 (Or.inr (Or.inl h4)))⟩, fun hz => bad _ _ (tx_bad.2 (Or.inl (by omega)))⟩
    · have e1 : IntKind.i64.wrap ((bs.length : Int) - ((numR bs).2 : Nat)) = (bs.length : Int) - ((numR bs).2 : Nat) := wrap_i64 (by omega) (by omega)
      have e2 : IntKind.u64.wrap ((bs.length : Int) - ((numR bs).2 : Nat)) = (bs.length : Int) - ((numR bs).2 : Nat) := wrap_u64 (by omega) (by omega)
      rw [e1, e2] at hlt
      exact Or.inr (Or.inr hlt)
    · have e1 : IntKind.i64.wrap ((bs.length : Int) - ((numR bs).2 : Nat)) = (bs.length : Int) - ((numR bs).2 : Nat) := wrap_i64 (by omega) (by omega)
      have e2 : IntKind.u64.wrap ((bs.length : Int) - ((numR bs).2 : Nat)) = (bs.length : Int) - ((numR bs).2 : Nat) := wrap_u64 (by omega) (by omega)
      rw [e1, e2] at hge
      have e3 : IntKind.i64.wrap (((numR bs).1 : Nat) : Int) = ((numR bs).1 : Nat) := wrap_i64 (by omega) (by omega)
      have e4 : IntKind.i64.wrap ((((numR bs).2 : Nat) : Int) + ((numR bs).1 : Nat)) = (((numR bs).2 : Nat) : Int) + ((numR bs).1 : Nat) := wrap_i64 (by omega) (by omega)
      have hgood : (tx bs).2.2 = false := Bool.eq_false_iff.2 fun h => by
        rcases tx_bad.1 h with h | h | h <;> omega
      rw [e3, e4]
      refine ⟨hx, hy, by omega, by omega, by omega, fun _ => ?_⟩
      have a0 : q2.i 0 = x := by rw [G2.i 0 (by omega), v0]
      have a1 : q2.i 1 = y := by rw [G2.i 1 (by omega), v1]
      have a3 : q2.i 3 = c := by rw [G2.i 3 (by omega), v3]
      have hw : ∀ q : Env, q.i 6 = q2.i 6 → q.i 7 = q2.i 7 → iev q (.wrap .i64 (.add (.var 7) (.wrap .i64 (.var 6)))) = (((numR bs).2 : Nat) : Int) + ((numR bs).1 : Nat) := by
        intro q k6 k7
        show IntKind.i64.wrap (q.i 7 + IntKind.i64.wrap (q.i 6)) = _
        rw [k6, k7, h6, h7, e3, e4]
      generalize hy' : (if c = (numR bs).2 then y else y + (((numR bs).2 : Nat) : Int)) = y'
      have hev : (CV.sl (.var 0) (.ite (.eq (.var 3) (.var 7)) (.var 1) (.add (.var 1) (.var 7))) (.sub (.wrap .i64 (.add (.var 7) (.wrap .i64 (.var 6)))) (.var 7)) (.sub (.var 3) (.var 7))).ev q2 = .slice (slP x y') (numR bs).1 (c - (numR bs).2) := by
        have b1 : iev q2 (.ite (.eq (.var 3) (.var 7)) (.var 1) (.add (.var 1) (.var 7))) = y' := by
          rw [iev_ite, bev_eq, iev_var, iev_var, iev_var, iev_add, iev_var, iev_var, a1, a3, h7, ← hy']
          by_cases hc : c = (numR bs).2
          · rw [if_pos hc, if_pos (by simp [hc])]
          · rw [if_neg hc, if_neg (by simp; omega)]
        have b2 : iev q2 (.sub (.wrap .i64 (.add (.var 7) (.wrap .i64 (.var 6)))) (.var 7)) = ((numR bs).1 : Nat) := by
          rw [iev_sub, hw q2 rfl rfl, iev_var, h7]; omega
        have b3 : iev q2 (.sub (.var 3) (.var 7)) = (c : Int) - ((numR bs).2 : Nat) := by rw [iev_sub, iev_var, iev_var, a3, h7]
        show Value.slice (slP (iev q2 (.var 0)) (iev q2 _)) (iev q2 _).toNat (iev q2 _).toNat = _
        rw [b1, b2, b3, iev_var, a0, Int.toNat_natCast, show ((c : Int) - ((numR bs).2 : Nat)).toNat = c - (numR bs).2 by omega]
      have hy0 : 0 ≤ y' := by rw [← hy']; split <;> omega
      have htx := tx_good hgood
      have hlen1 : ((bs.drop (numR bs).2).take (numR bs).1).length = (numR bs).1 := by rw [List.length_take, List.length_drop]; omega
      have hR1 : RdW R (.slice (slP x y') (numR bs).1 (c - (numR bs).2)) (tx bs).1 := by
        rw [htx]
        refine ⟨x, y', c - (numR bs).2, by rw [hlen1], hy0, ?_⟩
        obtain ⟨x2, y2, c2, he, hy2, hcells⟩ := id hRd
        rcases Nat.eq_zero_or_pos (numR bs).1 with hz | hpos
        · exact Or.inl (by rw [hz]; rfl)
        · rcases hcells with h | ⟨h0, h⟩
          · have hl0 : bs.length = 0 := by rw [h]; rfl
            omega
          · simp only [Value.slice.injEq] at he
            obtain ⟨rfl, rfl⟩ := slP_eqS h0 hy2 hy he.1
            refine Or.inr ⟨h0, fun j z hz => ?_⟩
            rw [List.getElem?_take] at hz
            split at hz
            · rw [List.getElem?_drop] at hz
              rw [← hy', if_neg (by omega), show (y + (((numR bs).2 : Nat) : Int)).toNat + j = y.toNat + ((numR bs).2 + j) by omega]
              exact h _ _ hz
            · cases hz
      refine ⟨[], [], rfl, rfl, ⟨⟨fun j => [0, x, y', (numR bs).1, (c : Int) - (numR bs).2, (((numR bs).2 : Nat) : Int) + ((numR bs).1 : Nat)].getD j 0, fun _ => false, fun _ => .empty, fun _ => .tuple #[], fun _ => Hl.none⟩, ?_, trivial, ⟨hx, hy0, by show (0 : Int) ≤ ((numR bs).1 : Nat); omega, by show (0 : Int) ≤ (c : Int) - ((numR bs).2 : Nat); omega⟩, trivial, trivial⟩, _, bs, R, .slice (slP x y') (numR bs).1 (c - (numR bs).2), (((numR bs).2 : Nat) : Int) + ((numR bs).1 : Nat), rfl, rfl, hRd, ?_, fun h => (by rw [hgood] at h; cases h), fun _ => ⟨by omega, hR1⟩⟩
      · show Value.tuple #[.int .u64 0, (CV.sl _ _ _ _).ev q2, .int .i64 (iev q2 _)] = Value.tuple #[.int .u64 0, .slice (slP x y') (((numR bs).1 : Nat) : Int).toNat ((c : Int) - ((numR bs).2 : Nat)).toNat, .int .i64 _]
        rw [hev, hw q2 rfl rfl, Int.toNat_natCast, show ((c : Int) - ((numR bs).2 : Nat)).toNat = c - (numR bs).2 by omega]; rfl
      · show Value.tuple #[.int .u64 0, (CV.sl _ _ _ _).ev q2, .int .i64 (iev q2 _)] = _
        rw [hev, hw q2 rfl rfl]
end Go.Proofs.YtomdimlnggpgbaaDoor
namespace Go.Proofs.YtomdimlnggpgbaaDoor
open Go Go.RowKit Go.Extern.Stop Go.Stop Go.Extern
theorem isTypeOf (v : Value) (w : World) : (Extern.ReflectliteType.typeOf #[.iface 206 v]).run Tryd.prog w = .ok (.iface 188 (.agg #[.pointer (some ⟨6, 206, none⟩)])) w := by kernel_rfl
def cmpExt : Array Value → Sem Value := Extern.ReflectliteType.method fun t => do Extern.Rtype.noPackHeld "Comparable" t; pure (.bool (← typeInfo t).comparable)
theorem isComparable (w : World) : (cmpExt #[.agg #[.pointer (some ⟨6, 206, none⟩)]]).run Tryd.prog w = .ok (.bool true) w := by kernel_rfl
theorem isMethodComparable (v : Value) (w : World) : (Go.method 344 188 v "Comparable").run Tryd.prog w = .ok (156, v) w := by kernel_rfl
theorem methodUnwrap (v : Value) (w : World) : (Go.method 344 134 v "Unwrap").run Tryd.prog w = .ok (152, v) w := by kernel_rfl
theorem isComp : (Tryd.prog.info? 206).map (·.comparable) = some true := by kernel_rfl
theorem isSize : (Tryd.prog.info? 232).map (·.size) = some 1 := by kernel_rfl
theorem noIsE (v : Value) (xT : TypeId) (w : World) : (Instr.typeAssert (.iface 206 v) xT 190 true).run Tryd.prog w = .ok (.tuple #[.nilIface, .bool false]) w := run_typeAssert_lacksB Tryd.underlying190 (by kernel_rfl) (by kernel_rfl) v xT w
theorem noUnwrapE (v : Value) (xT : TypeId) (w : World) : (Instr.typeAssert (.iface 206 v) xT 193 true).run Tryd.prog w = .ok (.tuple #[.nilIface, .bool false]) w := run_typeAssert_lacksB Tryd.underlying193 (by kernel_rfl) (by kernel_rfl) v xT w
theorem noUnwrapsE (v : Value) (xT : TypeId) (w : World) : (Instr.typeAssert (.iface 206 v) xT 195 true).run Tryd.prog w = .ok (.tuple #[.nilIface, .bool false]) w := run_typeAssert_lacksB Tryd.underlying195 (by kernel_rfl) (by kernel_rfl) v xT w
theorem noIsW (v : Value) (xT : TypeId) (w : World) : (Instr.typeAssert (.iface 134 v) xT 190 true).run Tryd.prog w = .ok (.tuple #[.nilIface, .bool false]) w := run_typeAssert_lacksB Tryd.underlying190 (by kernel_rfl) (by kernel_rfl) v xT w
theorem hasUnwrapW (v : Value) (xT : TypeId) (w : World) : (Instr.typeAssert (.iface 134 v) xT 193 true).run Tryd.prog w = .ok (.tuple #[.iface 134 v, .bool true]) w := run_typeAssert_hasB Tryd.underlying193 (by kernel_rfl) v xT w
theorem is_nil (b : Addr) (w : World) :
    Calls Tryd.prog 73 #[.nilIface, .iface 206 (.pointer (some b))] w fun e w' => e = .returned (.bool false) ∧ w' = w := by
  have hn := run_eql_iface_nil_left (P := Tryd.prog) w 206 (.pointer (some b)) Tryd.underlying74
  go_enter Tryd.func73, Tryd.ntmps73
  go_wp2
  go_ret
  exact ⟨rfl, rfl⟩
set_option maxRecDepth 20000 in
theorem is_wrap_same (s : ByteArray) (b : Addr) (w : World) :
    Calls Tryd.prog 73 #[.iface 134 (.agg #[.string s, .iface 206 (.pointer (some b))]), .iface 206 (.pointer (some b))] w fun e w' => e = .returned (.bool true) ∧ Below w.heap.size w w' := by
  obtain ⟨i, hi, hcmp⟩ := Option.map_eq_some_iff.1 isComp
  obtain ⟨j, hj, hjs⟩ := Option.map_eq_some_iff.1 isSize
  have h8 := @run_callFunc_extern Tryd.prog 103 _ Extern.ReflectliteType.typeOf Tryd.func103 (by kernel_rfl) (by kernel_rfl) (by kernel_rfl) (by kernel_rfl)
  have h32 := @run_callFunc_extern Tryd.prog 156 _ cmpExt Tryd.func156 (by kernel_rfl) (by kernel_rfl) (by kernel_rfl) (by kernel_rfl)
  have tT := isTypeOf
  have cT := isComparable
  have mR := isMethodComparable
  have mU := methodUnwrap
  have nE := noIsE
  have uE := noUnwrapE
  have vE := noUnwrapsE
  have nW := noIsW
  have uW := hasUnwrapW
  have heq := fun w => run_eql_iface_ptr_same (P := Tryd.prog) w b Tryd.underlying74 Tryd.underlying206 hi hcmp hj
  have hty := run_eql_iface_types (P := Tryd.prog) 134 206 (.agg #[.string s, .iface 206 (.pointer (some b))]) (.pointer (some b)) Tryd.underlying74 (by decide) w
  go_enter Tryd.func73, Tryd.ntmps73
  go_wp2
  refine wp_loop_rounds 2 ?_
  rw [rounds_succ]
  go_wp2
  rw [rounds_succ]
  go_wp2
  go_ret
  exact ⟨rfl, (Below.refl _ _).alloc (Nat.le_refl _) _⟩
set_option maxRecDepth 20000 in
theorem is_wrap_other (s : ByteArray) (b a : Addr) (ca cb : Array Value) (ta tb : TypeId) (w : World) (hne : a ≠ b) (ha : w.heap[a.block]? = some (.cells ca ta (0, 0))) (hb : w.heap[b.block]? = some (.cells cb tb (0, 0))) :
    Calls Tryd.prog 73 #[.iface 134 (.agg #[.string s, .iface 206 (.pointer (some a))]), .iface 206 (.pointer (some b))] w fun e w' => e = .returned (.bool false) ∧ Below w.heap.size w w' := by
  obtain ⟨i, hi, hcmp⟩ := Option.map_eq_some_iff.1 isComp
  obtain ⟨j, hj, hjs⟩ := Option.map_eq_some_iff.1 isSize
  have h8 := @run_callFunc_extern Tryd.prog 103 _ Extern.ReflectliteType.typeOf Tryd.func103 (by kernel_rfl) (by kernel_rfl) (by kernel_rfl) (by kernel_rfl)
  have h32 := @run_callFunc_extern Tryd.prog 156 _ cmpExt Tryd.func156 (by kernel_rfl) (by kernel_rfl) (by kernel_rfl) (by kernel_rfl)
  have tT := isTypeOf
  have cT := isComparable
  have mR := isMethodComparable
  have mU := methodUnwrap
  have nE := noIsE
  have uE := noUnwrapE
  have vE := noUnwrapsE
  have nW := noIsW
  have uW := hasUnwrapW
  have ha' : (w.alloc (.cells #[.string s, .iface 206 (.pointer (some a))] 134)).heap[a.block]? = some (.cells ca ta (0, 0)) := (Below.heap_alloc _ _ _ (Array.getElem?_eq_some_iff.1 ha).1).trans ha
  have hb' : (w.alloc (.cells #[.string s, .iface 206 (.pointer (some a))] 134)).heap[b.block]? = some (.cells cb tb (0, 0)) := (Below.heap_alloc _ _ _ (Array.getElem?_eq_some_iff.1 hb).1).trans hb
  have heq := run_eql_iface_ptr_other (P := Tryd.prog) _ Tryd.underlying74 Tryd.underlying206 hi hcmp hj (by rw [hjs]; decide) hne ha' hb'
  have hty := run_eql_iface_types (P := Tryd.prog) 134 206 (.agg #[.string s, .iface 206 (.pointer (some a))]) (.pointer (some b)) Tryd.underlying74 (by decide) w
  go_enter Tryd.func73, Tryd.ntmps73
  go_wp2
  refine wp_loop_rounds 2 ?_
  rw [rounds_succ]
  go_wp2
  rw [rounds_succ]
  go_wp2
  go_ret
  exact ⟨rfl, (Below.refl _ _).alloc (Nat.le_refl _) _⟩
end Go.Proofs.YtomdimlnggpgbaaDoor
namespace Go.Proofs.YtomdimlnggpgbaaDoor
open Go Go.Sx Go.Pk Go.RowKit
def gLost : Nat := 0
def gFull : Nat := 1
def gSpent : Nat := 2
def isG (g : Nat) : Prop := g = gLost ∨ g = gFull ∨ g = gSpent
def gv (a : Nat → Addr) (g : Nat) : Value := .iface 206 (.pointer (some (a g)))
structure Gl (R : Hl) (a : Nat → Addr) : Prop where
  cell : ∀ g, isG g → R.cell g 0 = some (gv a g)
  blk : ∀ g, isG g → ∃ c t, R (a g).block = some (.cells c t (0, 0))
  ne : ∀ g h, isG g → isG h → g ≠ h → a g ≠ a h
theorem Gl.same {R : Hl} {a b : Nat → Addr} (h : Gl R a) (k : Gl R b) {g : Nat} (hg : isG g) : a g = b g := by
  have := (h.cell g hg).symm.trans (k.cell g hg)
  simpa [gv] using this
def gi (c : Int) : Nat := if c = 4 then gFull else if c = 14 then gSpent else gLost
theorem gi_is (c : Int) : isG (gi c) := by
  unfold gi isG
  split
  · exact Or.inr (Or.inl rfl)
  · split
    · exact Or.inr (Or.inr rfl)
    · exact Or.inl rfl
def ErrAt (a : Nat → Addr) (v : Value) (c : Int) : Prop := (c = 0 ∧ v = .nilIface) ∨ (c ≠ 0 ∧ ∃ s : ByteArray, v = .iface 134 (.agg #[.string s, gv a (gi c)]))
theorem ErrAt.same {R : Hl} {a b : Nat → Addr} (h : Gl R a) (k : Gl R b) {v : Value} {c d : Int} (hc : ErrAt a v c) (hd : ErrAt b v d) : (c = 0 ↔ d = 0) ∧ (c ≠ 0 → gi c = gi d) := by
  rcases hc with ⟨hc, e⟩ | ⟨hc, s, e⟩ <;> rcases hd with ⟨hd, e'⟩ | ⟨hd, s', e'⟩ <;> rw [e] at e'
  · exact ⟨⟨fun _ => hd, fun _ => hc⟩, fun h => absurd hc h⟩
  · cases e'
  · cases e'
  · refine ⟨⟨fun h => absurd h hc, fun h => absurd h hd⟩, fun _ => ?_⟩
    simp only [Value.iface.injEq, Value.agg.injEq, Array.mk.injEq, List.cons.injEq, Value.string.injEq, gv, Value.pointer.injEq, Option.some.injEq, true_and, and_true] at e'
    rw [← h.same k (gi_is d)] at e'
    exact Classical.byContradiction fun hne => h.ne _ _ (gi_is c) (gi_is d) hne e'.2
open Classical in
noncomputable def isS : Sx.Spec where
  fn := 73
  own := []
  rd := [2000000]
  res := [.one .bool]
  pre := fun xs Hs Rs => ∃ e t R a c g, xs = [e, t] ∧ Rs = [R] ∧ Gl R a ∧ ErrAt a e c ∧ isG g ∧ t = gv a g
  post := fun xs Hs Rs v Hs' F => ∃ e t R, xs = [e, t] ∧ Rs = [R] ∧ ∀ a c g, Gl R a → ErrAt a e c → isG g → t = gv a g → v = .bool (decide (c ≠ 0 ∧ gi c = g))
theorem isS_ok : isS.OK Tryd.prog := by
  refine calls_spec rfl fun w xs Rs hs ⟨e, t, R, a, c, g, e1, e2, hG, hE, hg, ht⟩ => ?_
  subst e1 e2 ht
  refine ⟨.bool (decide (c ≠ 0 ∧ gi c = g)), ⟨⟨fun _ => 0, fun _ => decide (c ≠ 0 ∧ gi c = g), fun _ => .empty, fun _ => .tuple #[], fun _ => Hl.none⟩, rfl, trivial, trivial⟩, ?_, _, _, R, rfl, rfl, fun a' c' g' hG' hE' hg' ht' => ?_⟩
  · have hR := hs R (by simp)
    obtain ⟨cg, tg, hbg⟩ := hG.blk g hg
    rcases hE with ⟨rfl, rfl⟩ | ⟨hc, s, rfl⟩
    · refine (is_nil (a g) w).mono fun e w' ⟨h1, h2⟩ => ⟨(by rw [h1]; simp), (by rw [h2]; exact Below.refl _ _)⟩
    · by_cases hgc : gi c = g
      · subst hgc
        refine (is_wrap_same s (a (gi c)) w).mono fun e w' ⟨h1, h2⟩ => ⟨(by rw [h1]; simp [hc]), h2⟩
      · obtain ⟨cc, tc, hbc⟩ := hG.blk (gi c) (gi_is c)
        refine (is_wrap_other s (a g) (a (gi c)) cc cg tc tg w (hG.ne _ _ (gi_is c) hg hgc) (hR _ _ hbc) (hR _ _ hbg)).mono fun e w' ⟨h1, h2⟩ => ⟨(by rw [h1]; simp [hgc]), h2⟩
  · obtain ⟨s1, s2⟩ := hE.same hG hG' hE'
    have hgg : g = g' := by
      have : a g = a' g' := by simpa [gv] using ht'
      rw [← hG.same hG' hg'] at this
      exact Classical.byContradiction fun hne => hG.ne _ _ hg hg' hne this
    subst hgg
    congr 1
    by_cases h0 : c = 0
    · have := s1.1 h0
      simp [h0, this]
    · have h0' : c' ≠ 0 := fun h => h0 (s1.2 h)
      rw [← s2 h0]
      simp [h0, h0']
def wrappedS : Sx.Spec where
  fn := 36
  own := []
  rd := [2000000]
  res := [.one .any]
  pre := fun xs Hs Rs => ∃ (s : ByteArray) (c : Int) (R : Hl) (a : Nat → Addr), xs = [.string s, .int .i64 c] ∧ Rs = [R] ∧ Gl R a
  post := fun xs Hs Rs v Hs' F => ∃ (s : ByteArray) (c : Int) (R : Hl), xs = [.string s, .int .i64 c] ∧ Rs = [R] ∧ ∀ a, Gl R a → ErrAt a v c
set_option maxRecDepth 20000 in
theorem wrapped_walk (s : ByteArray) (c : Int) (a : Nat → Addr) (w : World) (h0 : w.cell? ⟨gLost, 0, none⟩ = some (gv a gLost)) (h1 : w.cell? ⟨gFull, 0, none⟩ = some (gv a gFull)) (h2 : w.cell? ⟨gSpent, 0, none⟩ = some (gv a gSpent)) :
    Calls Tryd.prog 36 #[.string s, .int .i64 c] w fun e w' => e = .returned (if c = 0 then .nilIface else .iface 134 (.agg #[.string s, if c = 4 then gv a gFull else if c = 14 then gv a gSpent else gv a gLost])) ∧ w' = w := by
  unfold gv gLost at h0
  unfold gv gFull at h1
  unfold gv gSpent at h2
  by_cases c0 : c = 0
  · subst c0
    go_enter Tryd.func36, Tryd.ntmps36
    go_wp2
    go_ret
    exact ⟨rfl, rfl⟩
  · rw [if_neg c0]
    by_cases c4 : c = 4
    · subst c4
      go_enter Tryd.func36, Tryd.ntmps36
      go_wp2
      go_ret
      exact ⟨rfl, rfl⟩
    · rw [if_neg c4]
      by_cases c14 : c = 14
      · subst c14
        go_enter Tryd.func36, Tryd.ntmps36
        go_wp2
        go_ret
        exact ⟨rfl, rfl⟩
      · rw [if_neg c14]
        go_enter Tryd.func36, Tryd.ntmps36
        go_wp2
        go_ret
        exact ⟨rfl, rfl⟩
def wrapV (a : Nat → Addr) (s : ByteArray) (c : Int) : Value := if c = 0 then .nilIface else .iface 134 (.agg #[.string s, if c = 4 then gv a gFull else if c = 14 then gv a gSpent else gv a gLost])
theorem wrappedS_ok : wrappedS.OK Tryd.prog := by
  refine calls_spec rfl fun w xs Rs hs ⟨s, c, R, a, e1, e2, hG⟩ => ?_
  subst e1 e2
  have hR := hs R (by simp)
  have hv := wrapped_walk s c a w (Hl.sub_cell hR (hG.cell _ (Or.inl rfl))) (Hl.sub_cell hR (hG.cell _ (Or.inr (Or.inl rfl)))) (Hl.sub_cell hR (hG.cell _ (Or.inr (Or.inr rfl))))
  refine ⟨wrapV a s c, ⟨⟨fun _ => 0, fun _ => false, fun _ => .empty, fun _ => wrapV a s c, fun _ => Hl.none⟩, rfl, trivial, trivial⟩, hv.mono fun e w' ⟨h1, h2⟩ => ⟨h1, (by rw [h2]; exact Below.refl _ _)⟩, s, c, R, rfl, rfl, fun a' hG' => ?_⟩
  unfold wrapV
  by_cases c0 : c = 0
  · rw [if_pos c0]; exact Or.inl ⟨c0, rfl⟩
  · rw [if_neg c0]
    refine Or.inr ⟨c0, s, ?_⟩
    congr 3
    unfold gi
    split
    · unfold gv; rw [hG.same hG' (Or.inr (Or.inl rfl))]
    · split
      · unfold gv; rw [hG.same hG' (Or.inr (Or.inr rfl))]
      · unfold gv; rw [hG.same hG' (Or.inl rfl)]
def numC (c : Int) : Int := if c = 0 then 0 else if gi c = gFull then 4 else if gi c = gSpent then 14 else 5
def numberE : Sx.Spec where
  fn := 74
  own := []
  rd := [2000000]
  res := [.one (.int .i64)]
  pre := fun xs Hs Rs => ∃ e R a c, xs = [e] ∧ Rs = [R] ∧ Gl R a ∧ ErrAt a e c
  post := fun xs Hs Rs v Hs' F => ∃ e R, xs = [e] ∧ Rs = [R] ∧ ∀ a c, Gl R a → ErrAt a e c → v = .int .i64 (numC c)
noncomputable def nuΓ : List Sx.Spec := [isS]
theorem nuΓ_ok : ∀ t ∈ nuΓ, t.OK Tryd.prog := fun t ht => by
  simp only [nuΓ, List.mem_cons, List.mem_nil_iff, or_false] at ht
  rw [ht]; exact isS_ok
def numbNd : Nd := .and (.e (.le (.vint 0) (.lit 1))) (.and (.imp (.eq (.vint 0) (.lit 0)) (.post [.ro 1 [.lit 0, .lit 1, .lit 2] false] (.sv (.one (.int .i64 (.lit 0)))))) (.imp (.not (.eq (.vint 0) (.lit 0))) (.and (.e (.his 1 (.lit 1) (.lit 0) 0 .any)) (.and (.pre (.call 0 2 [.sv (.one (.vr 0)), .sv (.one (.hv 1 (.lit 1) (.lit 0) 0))] [] [.ro 1 [.lit 0, .lit 1, .lit 2] false])) (.ext (.call 0 2 [.sv (.one (.vr 0)), .sv (.one (.hv 1 (.lit 1) (.lit 0) 0))] [] [.ro 1 [.lit 0, .lit 1, .lit 2] false]) (.and (.imp (.bvar 2) (.post [.ro 1 [.lit 0, .lit 1, .lit 2] false] (.sv (.one (.int .i64 (.lit 4)))))) (.imp (.not (.bvar 2)) (.and (.e (.his 1 (.lit 2) (.lit 0) 0 .any)) (.and (.pre (.call 0 3 [.sv (.one (.vr 0)), .sv (.one (.hv 1 (.lit 2) (.lit 0) 0))] [] [.ro 1 [.lit 0, .lit 1, .lit 2] false])) (.ext (.call 0 3 [.sv (.one (.vr 0)), .sv (.one (.hv 1 (.lit 2) (.lit 0) 0))] [] [.ro 1 [.lit 0, .lit 1, .lit 2] false]) (.and (.imp (.bvar 3) (.post [.ro 1 [.lit 0, .lit 1, .lit 2] false] (.sv (.one (.int .i64 (.lit 14)))))) (.imp (.not (.bvar 3)) (.post [.ro 1 [.lit 0, .lit 1, .lit 2] false] (.sv (.one (.int .i64 (.lit 5)))))))))))))))))
noncomputable def numbW : Walk Tryd.prog nuΓ numberE.fn where
  Λ := noLoops
  args := [.sv (.one (.vr 0))]
  mem := [.ro 1 [.lit 0, .lit 1, .lit 2] false]
  nv := 2
  nd := numbNd
  ok := by kernel_rfl
theorem nug0 : nuΓ[0]? = some isS := rfl
theorem nur0 : isS.res = [.one .bool] := rfl
theorem numC_same {R : Hl} {a b : Nat → Addr} (h : Gl R a) (k : Gl R b) {v : Value} {c d : Int} (hc : ErrAt a v c) (hd : ErrAt b v d) : numC c = numC d := by
  obtain ⟨s1, s2⟩ := hc.same h k hd
  unfold numC
  by_cases h0 : c = 0
  · rw [if_pos h0, if_pos (s1.1 h0)]
  · rw [if_neg h0, if_neg (fun h => h0 (s1.2 h)), s2 h0]
theorem errCode {a : Nat → Addr} {v : Value} {c : Int} (h : ErrAt a v c) : vcode v ≤ 1 ∧ (vcode v = 0 ↔ c = 0) := by
  rcases h with ⟨hc, rfl⟩ | ⟨hc, s, rfl⟩
  · exact ⟨(by decide), fun _ => hc, fun _ => rfl⟩
  · exact ⟨Int.le_refl 1, fun h => absurd (show (1 : Int) = 0 from h) (by omega), fun h => absurd h hc⟩
open Classical in
theorem is_res {e : Value} {R : Hl} {a : Nat → Addr} {c : Int} {g n : Nat} {q : Env} {K Hs : List Hl} {F : Hl} (hG : Gl R a) (hE : ErrAt a e c) (hg : isG g) (hp : isS.post [e, gv a g] Hs [R] (.bool (bev q (.bvar n))) K F) : (q.b n = true) = (c ≠ 0 ∧ gi c = g) := by
  obtain ⟨e', t', R', e1, e2, h⟩ := hp
  simp only [List.cons.injEq, and_true] at e1 e2
  obtain ⟨rfl, rfl⟩ := e1
  subst e2
  have := h a c g hG hE hg rfl
  rw [bev_bvar] at this
  simp only [Value.bool.injEq] at this
  rw [this]; simp
theorem numberE_ok : numberE.OK Tryd.prog := by
  refine Spec.of_fn (Γ := nuΓ) nuΓ_ok ?_
  rintro xs Hs Rs hl1 hl2 ⟨e, R, a, c, rfl, rfl, hG, hE⟩
  have e0 : Hs = [] := List.length_eq_zero_iff.1 hl1
  subst e0
  refine ⟨numbW, ⟨fun _ => 0, fun _ => false, fun _ => .empty, fun _ => e, fun _ => R⟩, fun _ _ => True, fun _ _ => 0, rfl, ⟨?_, ?_, ?_, ?_⟩, (fun _ h => nomatch h), ?_⟩
  · intro r hr ho; simp [numbW] at hr; subst hr; cases ho
  · intro r hr ho; simp [numbW] at hr; subst hr; exact ⟨R, by simp, Hl.le_refl _⟩
  · simp [numbW]
  · intro r hr; simp [numbW] at hr; subst hr; trivial
  · show Nd.holds _ _ _ numbNd
    generalize hρ : (⟨fun _ => 0, fun _ => false, fun _ => .empty, fun _ => e, fun _ => R⟩ : Env) = ρ
    have v0 : ρ.v 0 = e := by rw [← hρ]
    have w1 : ρ.h 1 = R := by rw [← hρ]
    clear hρ
    have out : ∀ {q : Env} {z : Int} {mem : Mem}, z = numC c → postOf numberE [e] [] [R] q mem (.sv (.one (.int .i64 (.lit z)))) := by
      rintro q z mem rfl _
      exact ⟨[], [], rfl, rfl, ⟨⟨fun _ => numC c, fun _ => false, fun _ => .empty, fun _ => .tuple #[], fun _ => Hl.none⟩, rfl, trivial, trivial⟩, e, R, rfl, rfl, fun a' c' hG' hE' => by
        rw [← numC_same hG hG' hE hE']; rfl⟩
    have hcode := errCode hE
    unfold numbNd
    simp only [Nd.holds, X.pre, X.rel, X.n, Src.ok, Src.len, Src.vals, true_and, and_true, if_true, Nat.mul_one, Nat.add_zero, Nat.reduceAdd, List.length_cons, List.length_nil, bT_tt, bT_ff, bT_bvar, bT_not, bT_and, bT_or, bT_ite, bT_lt, bT_le, bT_eq, bT_beq, bT_seq, bT_hB, bT_his, bT_hby, bT_hism, bT_hks, iev_lit, iev_var, iev_add, iev_sub, iev_mul, iev_wrap, iev_ite, iev_hI, iev_hP, iev_hmlen, sev_ite, sev_slit, sev_sof, sev_svar, TV.ev, SV.ev, CV.ev, List.map_cons, List.map_nil, Res.hl, cpTV, Cp.sv, Ck.cv, cpSVs, Cp.len, Ck.len, newHs_zero, newHs_one, roots_ne, nug0, nur0, iev_vint]
    rw [v0, w1]
    have cF : R.cell (Int.toNat 1) (Int.toNat 0) = some (gv a gFull) := hG.cell gFull (Or.inr (Or.inl rfl))
    have cS : R.cell (Int.toNat 2) (Int.toNat 0) = some (gv a gSpent) := hG.cell gSpent (Or.inr (Or.inr rfl))
    rw [cF]
    refine ⟨hcode.1, fun h0 => out (by unfold numC; rw [if_pos (hcode.2.1 h0)]), fun h0 => ⟨rfl, ⟨e, _, R, a, c, gFull, rfl, rfl, hG, hE, Or.inr (Or.inl rfl), rfl⟩, fun q1 g1 ⟨F1, hp1, _⟩ => ?_⟩⟩
    have hc0 : c ≠ 0 := fun h => h0 (hcode.2.2 h)
    have r1 := is_res hG hE (Or.inr (Or.inl rfl)) hp1
    rw [r1, g1.h 1 (by omega), g1.v 0 (by omega), v0, w1, cS]
    refine ⟨fun h => out (by unfold numC; rw [if_neg hc0, if_pos h.2]), fun h => ⟨rfl, ⟨e, _, R, a, c, gSpent, rfl, rfl, hG, hE, Or.inr (Or.inr rfl), rfl⟩, fun q2 g2 ⟨F2, hp2, _⟩ => ?_⟩⟩
    have hn1 : gi c ≠ gFull := fun e => h ⟨hc0, e⟩
    have r2 := is_res hG hE (Or.inr (Or.inr rfl)) hp2
    rw [r2]
    exact ⟨fun h => out (by unfold numC; rw [if_neg hc0, if_neg hn1, if_pos h.2]), fun h => out (by unfold numC; rw [if_neg hc0, if_neg hn1, if_neg fun e => h ⟨hc0, e⟩])⟩
end Go.Proofs.YtomdimlnggpgbaaDoor
namespace Go.Sx
open Go
theorem hls4_le {A B C D : Hl} (h1 : A.dis B) (h2 : A.dis C) (h3 : A.dis D) (h4 : B.dis C) (h5 : B.dis D) (h6 : C.dis D) : A.le (hls [A, B, C, D]) ∧ B.le (hls [A, B, C, D]) ∧ C.le (hls [A, B, C, D]) ∧ D.le (hls [A, B, C, D]) := by
  obtain ⟨r1, r2, r3⟩ := hls3_le h4 h5 h6
  have hd : A.dis (hls [B, C, D]) := by
    show A.dis (B.un (C.un (D.un Hl.none)))
    exact Hl.dis_un h1 (Hl.dis_un h2 (Hl.dis_un h3 (Hl.dis_none _)))
  have hr : (hls [B, C, D]).le (hls [A, B, C, D]) := Hl.un_right hd
  exact ⟨Hl.un_left _ _, fun k o h => hr k o (r1 k o h), fun k o h => hr k o (r2 k o h), fun k o h => hr k o (r3 k o h)⟩
theorem RdB.mono {R R' : Hl} (hl : R.le R') {u : Value} {bs : List Int} (h : RdB R u bs) : RdB R' u bs := by
  obtain ⟨x, y, c, hv, hy, h⟩ := h
  refine ⟨x, y, c, hv, hy, h.imp id fun ⟨h0, h⟩ => ⟨h0, fun j z hz => ?_⟩⟩
  have := h j z hz
  unfold Hl.cell at this ⊢
  split at this
  · rename_i o c' T fr ho
    rw [hl _ _ ho]; exact this
  · cases this
end Go.Sx
namespace Go.Proofs.YtomdimlnggpgbaaDoor.D
open Go Go.Sx
def LogR (H : Hl) (p dp : Value) (L : LM) (bs : List Int) : Prop := ∃ sl, LogRd H p dp sl L ∧ RdB H sl bs
theorem LogR.mono {R R' : Hl} (hl : R.le R') {p dp : Value} {L : LM} {bs : List Int} (h : LogR R p dp L bs) : LogR R' p dp L bs := by
  obtain ⟨sl, h1, h2⟩ := h
  exact ⟨sl, LogRd.mono h1 hl, RdB.mono hl h2⟩
theorem LogAt.rd {H : Hl} {p dp : Value} {L : LM} {bs : List Int} (h : LogAt H p dp L bs) : LogR H p dp L bs := h.parts
theorem LogR.uniq {H : Hl} {p dp dp' : Value} {L L' : LM} {bs bs' : List Int} (h : LogR H p dp L bs) (h' : LogR H p dp' L' bs') : dp = dp' ∧ L = L' ∧ bs = bs' := by
  obtain ⟨sl, h1, h2⟩ := h
  obtain ⟨sl', h1', h2'⟩ := h'
  obtain ⟨e1, rfl, e3⟩ := h1.uniq h1'
  exact ⟨e1, e3, h2.uniq h2'⟩
theorem sectors_post {dp v : Value} {H H' F : Hl} {D : DM} (hD : DiskAt H dp D) (hp : sectorsS.post [dp] [H] [] v [H'] F) : DiskAt H' dp D ∧ v = .int .i64 D.n := by
  obtain ⟨p', Hx, D', H2, hx, hH, hD', hH2, hD2, hv⟩ := hp
  simp only [List.cons.injEq, and_true] at hx hH hH2
  subst hx hH
  have e := hD'.uniq hD
  subst e
  rw [← hH2] at hD2
  exact ⟨hD2, hv⟩
theorem open_post {dp v : Value} {frm n : Int} {H H' F : Hl} {D : DM} (hD : DiskAt H dp D) (hp : openS.post [dp, .int .i64 frm, .int .i64 n] [H] [] v [H'] F) :
    ∃ pv, DiskAt H' dp D ∧ v = .tuple #[pv, .int .i64 (openE D frm n)] ∧ (openE D frm n = 0 → LogAt F pv dp (openL D frm n) (openB D frm n)) ∧ (openE D frm n ≠ 0 → pv = .pointer none) := by
  obtain ⟨dp', frm', n', Hx, D', H'', pv, hx, hH, hDx, hH', hDy, hv, hl⟩ := hp
  have hx : dp = dp' ∧ frm = frm' ∧ n = n' := by simpa using hx
  obtain ⟨e1, e2, e3⟩ := hx
  subst e1 e2 e3
  have hH : H = Hx := by simpa using hH
  subst hH
  have e := hDx.uniq hD
  subst e
  have hH' : H' = H'' := by simpa using hH'
  subst hH'
  exact ⟨pv, hDy, hv, hl⟩
theorem append_post {p u dp v : Value} {nt b bs : List Int} {H HD R F : Hl} {K : List Hl} {L : LM} {D : DM} (h1 : LogAt H p dp L bs) (h2 : DiskAt HD dp D) (h3 : RdW R u b) (hp : appendS.post [p, u, .agg (bys nt).toArray] [H, HD] [R] v K F) :
    ∃ H' HD', K = [H', HD'] ∧ DiskAt HD' dp (appendR D L bs b nt).D ∧ LogAt H' p dp (appendR D L bs b nt).L (appendR D L bs b nt).bs ∧ v = .int .i64 (appendR D L bs b nt).e := by
  obtain ⟨p', u', b', nt', Hx, HDx, Rx, dp', L', bs', D', H', HD', hx, hH, hR, hLx, hDx, hBx, hK, hDy, hLy, hv⟩ := hp
  have hx : p = p' ∧ u = u' ∧ bys nt = bys nt' := by simpa using hx
  obtain ⟨e1, e2, e3⟩ := hx
  have e3 := bys_inj e3
  subst e1 e2 e3
  have hH : H = Hx ∧ HD = HDx := by simpa using hH
  obtain ⟨e1, e2⟩ := hH
  subst e1 e2
  have hR : R = Rx := by simpa using hR
  subst hR
  obtain ⟨e1, e2, e3⟩ := hLx.uniq h1
  subst e1 e2 e3
  have e := hDx.uniq h2
  subst e
  have e := hBx.uniq h3
  subst e
  exact ⟨H', HD', hK, hDy, hLy, hv⟩
theorem bytes_pre {p dp : Value} {H : Hl} {L : LM} {bs : List Int} (h : LogR H p dp L bs) (hb : bs.length ≤ 1048576) : bytesS.pre [p] [] [H, H] := by
  obtain ⟨sl, h1, h2⟩ := h
  exact ⟨p, H, H, dp, sl, L, bs, rfl, rfl, h1, h2, hb⟩
theorem bytes_post {p dp v : Value} {H F : Hl} {K : List Hl} {L : LM} {bs : List Int} (h : LogR H p dp L bs) (hp : bytesS.post [p] [] [H, H] v K F) : OwB F 5 v bs := by
  obtain ⟨sl, h1, h2⟩ := h
  obtain ⟨p', R1, R2, dp', sl', L', bs', hx, hR, hLx, hBx, hO⟩ := hp
  have hx : p = p' := by simpa using hx
  subst hx
  have hR : H = R1 ∧ H = R2 := by simpa using hR
  obtain ⟨e1, e2⟩ := hR
  subst e1 e2
  obtain ⟨e1, e2, e3⟩ := hLx.uniq h1
  subst e1 e2 e3
  have e := hBx.uniq h2
  subst e
  exact hO
theorem room_pre {p dp : Value} {H : Hl} {L : LM} {bs : List Int} (h : LogR H p dp L bs) (hb : bs.length ≤ 1048576) : roomS.pre [p] [] [H] := by
  obtain ⟨sl, h1, h2⟩ := h
  exact ⟨p, H, dp, sl, L, bs.length, rfl, rfl, h1, RdB.slOf h2, hb⟩
theorem room_post {p dp v : Value} {H F : Hl} {K : List Hl} {L : LM} {bs : List Int} (h : LogR H p dp L bs) (hp : roomS.post [p] [] [H] v K F) : v = .int .i64 (L.most - bs.length) := by
  obtain ⟨sl, h1, h2⟩ := h
  obtain ⟨p', R1, dp', sl', L', n', hx, hR, hLx, hs, hv⟩ := hp
  have hx : p = p' := by simpa using hx
  subst hx
  have hR : H = R1 := by simpa using hR
  subst hR
  obtain ⟨e1, e2, e3⟩ := hLx.uniq h1
  subst e1 e2 e3
  have e := hs.uniq (RdB.slOf h2)
  subst e
  exact hv
theorem lnote_pre {p dp : Value} {H : Hl} {L : LM} {bs : List Int} (h : LogR H p dp L bs) : lnoteS.pre [p] [] [H] := by
  obtain ⟨sl, h1, h2⟩ := h
  exact ⟨p, H, dp, sl, L, rfl, rfl, h1⟩
theorem lnote_post {p dp v : Value} {H F : Hl} {K : List Hl} {L : LM} {bs : List Int} (h : LogR H p dp L bs) (hp : lnoteS.post [p] [] [H] v K F) : v = .agg (bys L.note).toArray := by
  obtain ⟨sl, h1, h2⟩ := h
  obtain ⟨p', R1, dp', sl', L', hx, hR, hLx, hv⟩ := hp
  have hx : p = p' := by simpa using hx
  subst hx
  have hR : H = R1 := by simpa using hR
  subst hR
  obtain ⟨e1, e2, e3⟩ := hLx.uniq h1
  subst e1 e2 e3
  exact hv
theorem openB_length {D : DM} (hD : D.ok) {frm n : Int} (hn : 3 ≤ n ∧ n ≤ 16384) : ((openB D frm n).length : Int) ≤ 64 * (n - 2) := by
  have hm : 0 ≤ 64 * (n - 2) := by omega
  have h0 := (lread_head hD frm hm 0).2
  have h1 := (lread_head hD frm hm 1).2
  have hs : (openL D frm n).size ≤ 64 * (n - 2) := by
    show (openH D frm n).getD 1 0 ≤ _
    unfold openH
    split
    · exact h1
    · exact h0
  unfold openB bytesAt
  rw [List.length_take]
  omega
theorem openB_bytes {D : DM} {frm n : Int} (h : ∀ z ∈ D.now, 0 ≤ z ∧ z < 256) : ∀ z ∈ openB D frm n, 0 ≤ z ∧ z < 256 := fun z hz => h z (List.mem_of_mem_drop (List.mem_of_mem_take hz))
end Go.Proofs.YtomdimlnggpgbaaDoor.D
namespace Go.Proofs.YtomdimlnggpgbaaDoor
open Go Go.Sx Go.Pk
open Go.Proofs.YtomdimlnggpgbaaDoor.D hiding envI noLoops numS
theorem gen_pre {p dp : Value} {H : Hl} {L : LM} {bs : List Int} (h : LogR H p dp L bs) : genS.pre [p] [] [H] := by
  obtain ⟨sl, h1, h2⟩ := h
  exact ⟨p, H, dp, sl, L, rfl, rfl, h1⟩
theorem gen_post {p dp v : Value} {H F : Hl} {K : List Hl} {L : LM} {bs : List Int} (h : LogR H p dp L bs) (hp : genS.post [p] [] [H] v K F) : v = .int .u64 (genI L) := by
  obtain ⟨sl, h1, h2⟩ := h
  obtain ⟨p', R1, dp', sl', L', hx, hR, hLx, hv⟩ := hp
  have hx : p = p' := by simpa using hx
  subst hx
  have hR : H = R1 := by simpa using hR
  subst hR
  obtain ⟨e1, e2, e3⟩ := hLx.uniq h1
  subst e1 e2 e3
  exact hv
theorem taken_post {u v : Value} {R F : Hl} {K : List Hl} {bs : List Int} (h : RdW R u bs) (hp : takenS.post [u] [] [R] v K F) : RowsR F v (takenL bs) := by
  obtain ⟨u', bs', R', e1, e2, hR', hO⟩ := hp
  simp only [List.cons.injEq, and_true] at e1 e2
  subst e1 e2
  rw [h.uniq hR']; exact hO
structure SM where
  LA : LM
  bA : List Int
  LB : LM
  bB : List Int
  recs : List (List Int)
  over : Bool
def sHl (a : Nat) (pa pb sl : Value) (o : Bool) : Hl := Hl.one a (.cells #[pa, pb, sl, .bool o] 70 (0, 0))
structure StoreIn (H : Hl) (a : Nat) (dp pa pb sl : Value) (HA HB HR : Hl) (S : SM) : Prop where
  la : LogAt HA pa dp S.LA S.bA
  lb : LogAt HB pb dp S.LB S.bB
  rows : RowsR HR sl S.recs
  d1 : (sHl a pa pb sl S.over).dis HA
  d2 : (sHl a pa pb sl S.over).dis HB
  d3 : (sHl a pa pb sl S.over).dis HR
  d4 : HA.dis HB
  d5 : HA.dis HR
  d6 : HB.dis HR
  hl : H = hls [sHl a pa pb sl S.over, HA, HB, HR]
def StoreAt (H : Hl) (p dp : Value) (S : SM) : Prop := ∃ (a : Nat) (pa pb sl : Value) (HA HB HR : Hl), p = .pointer (some ⟨a, 0, none⟩) ∧ StoreIn H a dp pa pb sl HA HB HR S
structure StoreRd (H : Hl) (a : Nat) (dp pa pb sl : Value) (S : SM) : Prop where
  blk : H a = some (.cells #[pa, pb, sl, .bool S.over] 70 (0, 0))
  la : LogR H pa dp S.LA S.bA
  lb : LogR H pb dp S.LB S.bB
  rows : RowsR H sl S.recs
def StoreR (H : Hl) (p dp : Value) (S : SM) : Prop := ∃ (a : Nat) (pa pb sl : Value), p = .pointer (some ⟨a, 0, none⟩) ∧ StoreRd H a dp pa pb sl S
theorem StoreAt.rd {H : Hl} {p dp : Value} {S : SM} (h : StoreAt H p dp S) : StoreR H p dp S := by
  obtain ⟨a, pa, pb, sl, HA, HB, HR, hp, h⟩ := h
  obtain ⟨l1, l2, l3, l4⟩ := hls4_le h.d1 h.d2 h.d3 h.d4 h.d5 h.d6
  rw [← h.hl] at l1 l2 l3 l4
  exact ⟨a, pa, pb, sl, hp, l1 _ _ (Hl.one_self _ _), h.la.rd.mono l2, h.lb.rd.mono l3, h.rows.mono l4⟩
theorem StoreR.mono {R R' : Hl} (hl : R.le R') {p dp : Value} {S : SM} (h : StoreR R p dp S) : StoreR R' p dp S := by
  obtain ⟨a, pa, pb, sl, hp, h⟩ := h
  exact ⟨a, pa, pb, sl, hp, hl _ _ h.blk, h.la.mono hl, h.lb.mono hl, h.rows.mono hl⟩
theorem StoreR.uniq {H : Hl} {p dp dp' : Value} {S S' : SM} (h : StoreR H p dp S) (h' : StoreR H p dp' S') : dp = dp' ∧ S = S' := by
  obtain ⟨a, pa, pb, sl, rfl, h⟩ := h
  obtain ⟨a', pa', pb', sl', hp, h'⟩ := h'
  have e : a = a' := by simpa using hp
  subst e
  have hb := h.blk.symm.trans h'.blk
  simp only [Option.some.injEq, Obj.cells.injEq, Array.mk.injEq, List.cons.injEq, Value.bool.injEq, and_true] at hb
  obtain ⟨rfl, rfl, rfl, e4⟩ := hb
  obtain ⟨e1, e2, e3⟩ := h.la.uniq h'.la
  obtain ⟨_, e5, e6⟩ := h.lb.uniq h'.lb
  have e7 := h.rows.uniq h'.rows
  refine ⟨e1, ?_⟩
  obtain ⟨x1, x2, x3, x4, x5, x6⟩ := S
  obtain ⟨y1, y2, y3, y4, y5, y6⟩ := S'
  simp only at e2 e3 e4 e5 e6 e7
  subst e2 e3 e4 e5 e6 e7
  rfl
def sOpenE (D : DM) : Int := if D.n / 2 < 3 then 1 else if D.gone then 5 else 0
def lowL (D : DM) : LM := openL D 0 ((D.n / 2 : Nat) : Int)
def lowB (D : DM) : List Int := openB D 0 ((D.n / 2 : Nat) : Int)
def highL (D : DM) : LM := openL D ((D.n / 2 : Nat) : Int) ((D.n / 2 : Nat) : Int)
def highB (D : DM) : List Int := openB D ((D.n / 2 : Nat) : Int) ((D.n / 2 : Nat) : Int)
def mkS (A : LM) (bA : List Int) (B : LM) (bB : List Int) : SM := ⟨A, bA, B, bB, takenL bA, false⟩
def sOpen (D : DM) : SM := if genI (lowL D) < genI (highL D) then mkS (highL D) (highB D) (lowL D) (lowB D) else mkS (lowL D) (lowB D) (highL D) (highB D)
def sopenS : Sx.Spec where
  fn := 10
  own := [.arg 0]
  rd := []
  res := [.one .ptr, .one (.int .i64)]
  links := [0]
  pre := fun xs Hs Rs => ∃ dp H D, xs = [dp] ∧ Hs = [H] ∧ DiskAt H dp D ∧ bytes256 (lowB D) ∧ bytes256 (highB D)
  post := fun xs Hs Rs v Hs' F => ∃ dp H D H' pv, xs = [dp] ∧ Hs = [H] ∧ DiskAt H dp D ∧ Hs' = [H'] ∧ DiskAt H' dp D ∧ v = .tuple #[pv, .int .i64 (sOpenE D)] ∧ (sOpenE D = 0 → StoreAt F pv dp (sOpen D)) ∧ (sOpenE D ≠ 0 → pv = .pointer none)
def soΓ : List Sx.Spec := [sectorsS, openS, genS, bytesS, takenS]
theorem soΓ_ok : ∀ t ∈ soΓ, t.OK Tryd.prog := fun t ht => by
  simp only [soΓ, List.mem_cons, List.mem_nil_iff, or_false] at ht
  rcases ht with rfl | rfl | rfl | rfl | rfl
  · exact sectorsS_ok
  · exact openS_ok
  · exact genS_ok
  · exact bytesS_ok
  · exact takenS_ok
def sopenNd : Nd := .and (.pre (.call 0 2 [.sv (.one (.hptr (.var 0) (.lit 0)))] [.hp 1 [] [.var 0] []] [])) (.ext (.call 0 2 [.sv (.one (.hptr (.var 0) (.lit 0)))] [.hp 1 [] [.var 0] []] []) (.and (.imp (.lt (.wrap .i64 (.quo (.var 2) (.lit 2))) (.lit 3)) (.post [.hp 2 [1] [.var 0] []] (.tup [.one (.hptr (.lit (-1)) (.lit 0)), .one (.int .i64 (.lit 1))]))) (.imp (.not (.lt (.wrap .i64 (.quo (.var 2) (.lit 2))) (.lit 3))) (.and (.pre (.call 1 4 [.sv (.one (.hptr (.var 0) (.lit 0))), .sv (.one (.int .i64 (.lit 0))), .sv (.one (.int .i64 (.wrap .i64 (.quo (.var 2) (.lit 2)))))] [.hp 2 [1] [.var 0] []] [])) (.ext (.call 1 4 [.sv (.one (.hptr (.var 0) (.lit 0))), .sv (.one (.int .i64 (.lit 0))), .sv (.one (.int .i64 (.wrap .i64 (.quo (.var 2) (.lit 2)))))] [.hp 2 [1] [.var 0] []] []) (.and (.imp (.not (.eq (.var 6) (.lit 0))) (.post [.hp 4 [2, 1] [.var 0] [], .hp 5 [] [.var 4] [.var 0]] (.tup [.one (.hptr (.lit (-1)) (.lit 0)), .one (.int .i64 (.var 6))]))) (.imp (.eq (.var 6) (.lit 0)) (.and (.pre (.call 1 7 [.sv (.one (.hptr (.var 0) (.lit 0))), .sv (.one (.int .i64 (.wrap .i64 (.quo (.var 2) (.lit 2))))), .sv (.one (.int .i64 (.wrap .i64 (.quo (.var 2) (.lit 2)))))] [.hp 4 [2, 1] [.var 0] []] [])) (.ext (.call 1 7 [.sv (.one (.hptr (.var 0) (.lit 0))), .sv (.one (.int .i64 (.wrap .i64 (.quo (.var 2) (.lit 2))))), .sv (.one (.int .i64 (.wrap .i64 (.quo (.var 2) (.lit 2)))))] [.hp 4 [2, 1] [.var 0] []] []) (.and (.imp (.not (.eq (.var 9) (.lit 0))) (.post [.hp 7 [4, 2, 1] [.var 0] [], .hp 5 [] [.var 4] [.var 0], .hp 8 [] [.var 7] [.var 0]] (.tup [.one (.hptr (.lit (-1)) (.lit 0)), .one (.int .i64 (.var 9))]))) (.imp (.eq (.var 9) (.lit 0)) (.and (.pre (.call 2 10 [.sv (.one (.hptr (.var 7) (.var 8)))] [] [.hp 8 [] [.var 7] [.var 0]])) (.ext (.call 2 10 [.sv (.one (.hptr (.var 7) (.var 8)))] [] [.hp 8 [] [.var 7] [.var 0]]) (.and (.pre (.call 2 11 [.sv (.one (.hptr (.var 4) (.var 5)))] [] [.hp 5 [] [.var 4] [.var 0]])) (.ext (.call 2 11 [.sv (.one (.hptr (.var 4) (.var 5)))] [] [.hp 5 [] [.var 4] [.var 0]]) (.and (.imp (.lt (.var 11) (.var 10)) (.and (.pre (.call 3 12 [.sv (.one (.hptr (.var 7) (.var 8)))] [] [.hp 8 [] [.var 7] [.var 0], .hp 8 [] [.var 7] [.var 0]])) (.ext (.call 3 12 [.sv (.one (.hptr (.var 7) (.var 8)))] [] [.hp 8 [] [.var 7] [.var 0], .hp 8 [] [.var 7] [.var 0]]) (.and (.pre (.call 4 16 [.sv (.one (.sl (.var 12) (.var 13) (.var 14) (.var 15)))] [] [.hp 12 [] [.var 12] []])) (.ext (.call 4 16 [.sv (.one (.sl (.var 12) (.var 13) (.var 14) (.var 15)))] [] [.hp 12 [] [.var 12] []]) (.ext (.alloc 20) (.post [.hp 7 [4, 2, 1] [.var 0] [], .hp 5 [] [.var 4] [.var 0], .hp 8 [] [.var 7] [.var 0], .hp 12 [] [.var 12] [], .hp 16 [] [.var 16] [], .blk 20 [.hptr (.var 7) (.var 8), .hptr (.var 4) (.var 5), .sl (.var 16) (.var 17) (.var 18) (.var 19), .bool .ff] 70] (.tup [.one (.hptr (.var 20) (.lit 0)), .one (.int .i64 (.lit 0))])))))))) (.imp (.not (.lt (.var 11) (.var 10))) (.and (.pre (.call 3 12 [.sv (.one (.hptr (.var 4) (.var 5)))] [] [.hp 5 [] [.var 4] [.var 0], .hp 5 [] [.var 4] [.var 0]])) (.ext (.call 3 12 [.sv (.one (.hptr (.var 4) (.var 5)))] [] [.hp 5 [] [.var 4] [.var 0], .hp 5 [] [.var 4] [.var 0]]) (.and (.pre (.call 4 16 [.sv (.one (.sl (.var 12) (.var 13) (.var 14) (.var 15)))] [] [.hp 12 [] [.var 12] []])) (.ext (.call 4 16 [.sv (.one (.sl (.var 12) (.var 13) (.var 14) (.var 15)))] [] [.hp 12 [] [.var 12] []]) (.ext (.alloc 20) (.post [.hp 7 [4, 2, 1] [.var 0] [], .hp 5 [] [.var 4] [.var 0], .hp 8 [] [.var 7] [.var 0], .hp 12 [] [.var 12] [], .hp 16 [] [.var 16] [], .blk 20 [.hptr (.var 4) (.var 5), .hptr (.var 7) (.var 8), .sl (.var 16) (.var 17) (.var 18) (.var 19), .bool .ff] 70] (.tup [.one (.hptr (.var 20) (.lit 0)), .one (.int .i64 (.lit 0))]))))))))))))))))))))))))
def sopenW : Walk Tryd.prog soΓ sopenS.fn where
  Λ := noLoops
  args := [TP (.var 0) (.lit 0)]
  mem := [.hp 1 [] [.var 0] []]
  nv := 2
  nd := sopenNd
  ok := by kernel_rfl
theorem sog0 : soΓ[0]? = some sectorsS := rfl
theorem sog1 : soΓ[1]? = some openS := rfl
theorem sog2 : soΓ[2]? = some genS := rfl
theorem sog3 : soΓ[3]? = some bytesS := rfl
theorem sog4 : soΓ[4]? = some takenS := rfl
theorem sor0 : sectorsS.res = [.one (.int .i64)] := rfl
theorem sor1 : openS.res = [.one .ptr, .one (.int .i64)] := rfl
theorem sor2 : genS.res = [.one (.int .u64)] := rfl
theorem sor3 : bytesS.res = [.one .sl] := rfl
theorem sor4 : takenS.res = [.one .sl] := rfl
theorem rpi (n : Nat) : (cpRoots n [Cp.one .ptr, Cp.one (.int .i64)] ≠ []) = True := by simp [cpRoots, Cp.roots, Ck.root]
theorem half_wrap {n : Nat} (h : n ≤ 16384) : IntKind.i64.wrap ((n : Int).tdiv 2) = ((n / 2 : Nat) : Int) := by
  have e : (n : Int).tdiv 2 = ((n / 2 : Nat) : Int) := rfl
  rw [e]
  exact wrap_i64 (by omega) (by omega)
set_option maxRecDepth 4000 in
theorem sopenS_ok : sopenS.OK Tryd.prog := by
  refine Spec.of_fn (Γ := soΓ) soΓ_ok ?_
  rintro xs Hs Rs hl1 hl2 ⟨dp, H, D, rfl, rfl, hD, hlo, hhi⟩
  have e1 : Rs = [] := List.length_eq_zero_iff.1 hl2
  subst e1
  obtain ⟨da, s, m, es, clock, hdp, hDi⟩ := id hD
  have hDn := hDi.ok.n
  have hok := hDi.ok
  refine ⟨sopenW, envI [(da : Int)] false [Hl.none, H], fun _ _ => True, fun _ _ => 0, ?_, ⟨?_, ?_, ?_, ?_⟩, (fun _ h => nomatch h), ?_⟩
  · show [Value.pointer (slP (da : Int) 0)] = _; rw [ptr0, hdp]
  · intro r hr ho; simp [sopenW] at hr; subst hr; exact ⟨H, by simp, Hl.le_refl _⟩
  · intro r hr ho; simp [sopenW] at hr; subst hr; cases ho
  · simp [sopenW]
  · intro r hr; simp [sopenW] at hr; subst hr; trivial
  · show Nd.holds _ _ _ sopenNd
    generalize hρ : envI [(da : Int)] false [Hl.none, H] = ρ
    have v0 : ρ.i 0 = da := by rw [← hρ]; rfl
    have w1 : ρ.h 1 = H := by rw [← hρ]; rfl
    clear hρ
    have ep : Value.pointer (slP (da : Int) 0) = dp := by rw [ptr0, hdp]
    have bad : ∀ (q : Env) (k : Nat) (vs : List Nat) (t : Mem) (x : E) (e : Int), DiskAt (q.h k) dp D → iev q x = e → sOpenE D = e → e ≠ 0 →
        postOf sopenS [dp] [H] [] q (.hp k vs [.var 0] [] :: t) (.tup [.one (.hptr (.lit (-1)) (.lit 0)), .one (.int .i64 x)]) := by
      intro q k vs t x e hq hx he hne _
      refine ⟨[[0]], [], rfl, rfl, ⟨⟨fun j => [-1, 0, e].getD j 0, fun _ => false, fun _ => .empty, fun _ => .tuple #[], fun _ => Hl.none⟩, ?_, ⟨by show (-1 : Int) ≤ -1; omega, Int.le_refl _⟩, trivial, trivial⟩, dp, H, D, _, .pointer none, rfl, rfl, hD, rfl, ?_, ?_, fun h => absurd (he.symm.trans h) hne, fun _ => rfl⟩
      · subst hx; rfl
      · show DiskAt (hls [q.h k]) _ _
        rw [hls_one]; exact hq
      · rw [he, ← hx]; rfl
    unfold sopenNd
    simp only [Nd.holds, X.pre, X.rel, X.n, Src.ok, Src.len, Src.vals, true_and, and_true, if_true, Nat.mul_one, Nat.add_zero, Nat.reduceAdd, List.length_cons, List.length_nil, bT_tt, bT_ff, bT_bvar, bT_not, bT_and, bT_or, bT_ite, bT_lt, bT_le, bT_eq, bT_beq, bT_seq, bT_hB, bT_his, bT_hby, bT_hism, bT_hks, iev_lit, iev_var, iev_add, iev_sub, iev_mul, iev_wrap, iev_ite, iev_hI, iev_hP, iev_hmlen, sev_ite, sev_slit, sev_sof, sev_svar, TV.ev, SV.ev, CV.ev, List.map_cons, List.map_nil, Res.hl, cpTV, Cp.sv, Ck.cv, cpSVs, Cp.len, Ck.len, newHs_zero, newHs_one, roots_ne, sog0, sog1, sog2, sog3, sog4, sor0, sor1, sor2, sor3, sor4, rsl, rptr, rpi, iev_quo]
    rw [v0, w1, ep]
    refine ⟨⟨dp, H, D, rfl, rfl, hD⟩, fun q1 g1 ⟨F1, hp1, _⟩ => ?_⟩
    obtain ⟨hD1, hv1⟩ := sectors_post hD hp1
    have hv1 : q1.i 2 = D.n := by simpa using hv1
    rw [hv1, half_wrap hDn, g1.i 0 (by omega), v0, ep]
    refine ⟨fun hlt => bad q1 2 _ _ _ 1 hD1 (iev_lit _ _) (by unfold sOpenE; rw [if_pos (by omega)]) (by decide), fun hge => ?_⟩
    have hn3 : 3 ≤ D.n / 2 := by omega
    have hE : sOpenE D = if D.gone then 5 else 0 := by unfold sOpenE; rw [if_neg (by omega)]
    have hEA : openE D 0 ((D.n / 2 : Nat) : Int) = if D.gone then 5 else 0 := by unfold openE; rw [if_neg (by omega)]
    have hEB : openE D ((D.n / 2 : Nat) : Int) ((D.n / 2 : Nat) : Int) = if D.gone then 5 else 0 := by unfold openE; rw [if_neg (by omega)]
    have hnn : 3 ≤ ((D.n / 2 : Nat) : Int) ∧ ((D.n / 2 : Nat) : Int) ≤ 16384 := by omega
    refine ⟨⟨dp, _, _, _, D, rfl, rfl, hD1⟩, fun q2 g2 ⟨F2, hp2, hF2, hn2⟩ => ?_⟩
    obtain ⟨pA, hD2, hv2, hA, _⟩ := open_post hD1 hp2
    simp only [Value.tuple.injEq, Array.mk.injEq, List.cons.injEq, Value.int.injEq, true_and, and_true] at hv2
    obtain ⟨eA, e6⟩ := hv2
    have G2 : Agree 2 ρ q2 := g1.trans (g2.mono (by omega))
    have hq2 : q2.i 2 = D.n := by rw [g2.i 2 (by omega), hv1]
    rw [hq2, half_wrap hDn, G2.i 0 (by omega), v0, ep]
    refine ⟨fun hne => bad q2 4 _ _ _ 5 hD2 (by rw [iev_var, e6, hEA, if_pos]; exact Classical.byContradiction fun hg => hne (by rw [e6, hEA, if_neg hg])) (by rw [hE, if_pos]; exact Classical.byContradiction fun hg => hne (by rw [e6, hEA, if_neg hg])) (by decide), fun heq => ?_⟩
    have hgone : D.gone = false := by
      cases hg : D.gone with
      | false => rfl
      | true => rw [e6, hEA, hg] at heq; cases heq
    have hA : LogAt F2 pA dp (lowL D) (lowB D) := hA (by rw [hEA, hgone]; rfl)
    rw [← eA, ← hF2 trivial] at hA
    refine ⟨⟨dp, _, _, _, D, rfl, rfl, hD2⟩, fun q3 g3 ⟨F3, hp3, hF3, hn3'⟩ => ?_⟩
    obtain ⟨pB, hD3, hv3, hB, _⟩ := open_post hD2 hp3
    simp only [Value.tuple.injEq, Array.mk.injEq, List.cons.injEq, Value.int.injEq, true_and, and_true] at hv3
    obtain ⟨eB, e9⟩ := hv3
    have e9 : q3.i 9 = 0 := by rw [e9, hEB, hgone]; rfl
    have hB : LogAt F3 pB dp (highL D) (highB D) := hB (by rw [hEB, hgone]; rfl)
    rw [← eB, ← hF3 trivial] at hB
    refine ⟨fun h => absurd e9 h, fun _ => ⟨gen_pre hB.rd, fun q4 g4 ⟨F4, hp4, _⟩ => ?_⟩⟩
    have hv4 : q4.i 10 = genI (highL D) := by simpa using gen_post hB.rd hp4
    have G4 : Agree 7 q2 q4 := g3.trans (g4.mono (by omega))
    have hA4 : LogAt (q4.h 5) (.pointer (slP (q4.i 4) (q4.i 5))) dp (lowL D) (lowB D) := by
      rw [G4.h 5 (by omega), G4.i 4 (by omega), G4.i 5 (by omega)]; exact hA
    refine ⟨gen_pre hA4.rd, fun q5 g5 ⟨F5, hp5, _⟩ => ?_⟩
    have hv5 : q5.i 11 = genI (lowL D) := by simpa using gen_post hA4.rd hp5
    have hv5' : q5.i 10 = genI (highL D) := by rw [g5.i 10 (by omega), hv4]
    have hA5 : LogAt (q5.h 5) (.pointer (slP (q5.i 4) (q5.i 5))) dp (lowL D) (lowB D) := by
      rw [g5.h 5 (by omega), g5.i 4 (by omega), g5.i 5 (by omega)]; exact hA4
    have G35 : Agree 10 q3 q5 := g4.trans (g5.mono (by omega))
    have hB5 : LogAt (q5.h 8) (.pointer (slP (q5.i 7) (q5.i 8))) dp (highL D) (highB D) := by
      rw [G35.h 8 (by omega), G35.i 7 (by omega), G35.i 8 (by omega)]; exact hB
    have hD5 : DiskAt (q5.h 7) dp D := by rw [G35.h 7 (by omega)]; exact hD3
    have hLA : ((lowB D).length : Int) ≤ _ := openB_length hok (frm := 0) hnn
    have hLB : ((highB D).length : Int) ≤ _ := openB_length hok (frm := ((D.n / 2 : Nat) : Int)) hnn
    rw [hv5, hv5']
    have hsE : sOpenE D = 0 := by rw [hE, hgone]; rfl
    refine ⟨fun hlt => ⟨bytes_pre hB5.rd (by omega), fun q6 g6 ⟨F6, hp6, hF6, hn6⟩ => ?_⟩, fun hge => ⟨bytes_pre hA5.rd (by omega), fun q6 g6 ⟨F6, hp6, hF6, hn6⟩ => ?_⟩⟩
    · have hO := bytes_post hB5.rd hp6
      rw [← hF6 trivial] at hO
      have hRd := hO.rd.w
      refine ⟨⟨_, _, _, rfl, rfl, hRd, hhi, by omega⟩, fun q7 g7 ⟨F7, hp7, hF7, hn7⟩ q8 g8 p8 hd => ?_⟩
      have hW := taken_post hRd hp7
      rw [← hF7 trivial] at hW
      have G7 : Agree 12 q5 q8 := g6.trans ((g7.trans (g8.mono (by omega))).mono (by omega))
      have hn7 : -1 ≤ q7.i 16 ∧ 0 ≤ q7.i 17 ∧ 0 ≤ q7.i 18 ∧ 0 ≤ q7.i 19 := hn7.1
      refine ⟨[[0]], [5, 2, 1, 4], rfl, rfl, ⟨⟨fun j => [q8.i 20, 0, 0].getD j 0, fun _ => false, fun _ => .empty, fun _ => .tuple #[], fun _ => Hl.none⟩, rfl, ⟨by show -1 ≤ q8.i 20; omega, Int.le_refl _⟩, trivial, trivial⟩, dp, H, D, _, Value.pointer (slP (q8.i 20) 0), rfl, rfl, hD, rfl, ?_, ?_, fun _ => ?_, fun h => absurd hsE h⟩
      · show DiskAt (hls [q8.h 7]) _ _
        rw [hls_one, G7.h 7 (by omega)]; exact hD5
      · rw [hsE]; rfl
      · unfold sOpen
        rw [if_pos hlt]
        have hW8 : RowsR (q8.h 16) (.slice (slP (q8.i 16) (q8.i 17)) (q8.i 18).toNat (q8.i 19).toNat) (takenL (highB D)) := by
          rw [g8.h 16 (by omega), g8.i 16 (by omega), g8.i 17 (by omega), g8.i 18 (by omega), g8.i 19 (by omega)]; exact hW
        have hA8 : LogAt (q8.h 5) (.pointer (slP (q8.i 4) (q8.i 5))) dp (lowL D) (lowB D) := by
          rw [G7.h 5 (by omega), G7.i 4 (by omega), G7.i 5 (by omega)]; exact hA5
        have hB8 : LogAt (q8.h 8) (.pointer (slP (q8.i 7) (q8.i 8))) dp (highL D) (highB D) := by
          rw [G7.h 8 (by omega), G7.i 7 (by omega), G7.i 8 (by omega)]; exact hB5
        exact ⟨(q8.i 20).toNat, _, _, _, _, _, _, by rw [slP_pos p8]; rfl, ⟨hB8, hA8, hW8, hd 5 2 _ _ (by decide) rfl rfl rfl, hd 5 1 _ _ (by decide) rfl rfl rfl, hd 5 4 _ _ (by decide) rfl rfl rfl, hd 2 1 _ _ (by decide) rfl rfl rfl, hd 2 4 _ _ (by decide) rfl rfl rfl, hd 1 4 _ _ (by decide) rfl rfl rfl, rfl⟩⟩
    · have hO := bytes_post hA5.rd hp6
      rw [← hF6 trivial] at hO
      have hRd := hO.rd.w
      refine ⟨⟨_, _, _, rfl, rfl, hRd, hlo, by omega⟩, fun q7 g7 ⟨F7, hp7, hF7, hn7⟩ q8 g8 p8 hd => ?_⟩
      have hW := taken_post hRd hp7
      rw [← hF7 trivial] at hW
      have G7 : Agree 12 q5 q8 := g6.trans ((g7.trans (g8.mono (by omega))).mono (by omega))
      have hn7 : -1 ≤ q7.i 16 ∧ 0 ≤ q7.i 17 ∧ 0 ≤ q7.i 18 ∧ 0 ≤ q7.i 19 := hn7.1
      refine ⟨[[0]], [5, 1, 2, 4], rfl, rfl, ⟨⟨fun j => [q8.i 20, 0, 0].getD j 0, fun _ => false, fun _ => .empty, fun _ => .tuple #[], fun _ => Hl.none⟩, rfl, ⟨by show -1 ≤ q8.i 20; omega, Int.le_refl _⟩, trivial, trivial⟩, dp, H, D, _, Value.pointer (slP (q8.i 20) 0), rfl, rfl, hD, rfl, ?_, ?_, fun _ => ?_, fun h => absurd hsE h⟩
      · show DiskAt (hls [q8.h 7]) _ _
        rw [hls_one, G7.h 7 (by omega)]; exact hD5
      · rw [hsE]; rfl
      · unfold sOpen
        rw [if_neg hge]
        have hW8 : RowsR (q8.h 16) (.slice (slP (q8.i 16) (q8.i 17)) (q8.i 18).toNat (q8.i 19).toNat) (takenL (lowB D)) := by
          rw [g8.h 16 (by omega), g8.i 16 (by omega), g8.i 17 (by omega), g8.i 18 (by omega), g8.i 19 (by omega)]; exact hW
        have hA8 : LogAt (q8.h 5) (.pointer (slP (q8.i 4) (q8.i 5))) dp (lowL D) (lowB D) := by
          rw [G7.h 5 (by omega), G7.i 4 (by omega), G7.i 5 (by omega)]; exact hA5
        have hB8 : LogAt (q8.h 8) (.pointer (slP (q8.i 7) (q8.i 8))) dp (highL D) (highB D) := by
          rw [G7.h 8 (by omega), G7.i 7 (by omega), G7.i 8 (by omega)]; exact hB5
        exact ⟨(q8.i 20).toNat, _, _, _, _, _, _, by rw [slP_pos p8]; rfl, ⟨hA8, hB8, hW8, hd 5 1 _ _ (by decide) rfl rfl rfl, hd 5 2 _ _ (by decide) rfl rfl rfl, hd 5 4 _ _ (by decide) rfl rfl rfl, hd 1 2 _ _ (by decide) rfl rfl rfl, hd 1 4 _ _ (by decide) rfl rfl rfl, hd 2 4 _ _ (by decide) rfl rfl rfl, rfl⟩⟩
end Go.Proofs.YtomdimlnggpgbaaDoor
namespace Go.Proofs.YtomdimlnggpgbaaDoor
open Go Go.Sx Go.Pk
open Go.Proofs.YtomdimlnggpgbaaDoor.D hiding envI noLoops numS
def readyE (o : Bool) (rows : List (List Int)) (e : Int) : Prop := (o = true → e = 5) ∧ (o = false → packOk rows → e = 0) ∧ (o = false → ¬ packOk rows → e = 3)
def readyS : Sx.Spec where
  fn := 33
  own := []
  rd := [0, 1, 3000001]
  res := [.one .sl, .one (.int .i64)]
  pre := fun xs Hs Rs => ∃ p v a o R R1 RA rows, xs = [p, v] ∧ Rs = [R, R1, RA] ∧ p = .pointer (some ⟨a, 0, none⟩) ∧ R.cell a 3 = some (.bool o) ∧ RowsB R1 RA v rows ∧ rows.length ≤ 1000000 ∧ ∀ r ∈ rows, r.length ≤ 1000000
  post := fun xs Hs Rs w Hs' F => ∃ p v a o R R1 RA rows u e, xs = [p, v] ∧ Rs = [R, R1, RA] ∧ p = .pointer (some ⟨a, 0, none⟩) ∧ R.cell a 3 = some (.bool o) ∧ RowsB R1 RA v rows ∧ w = .tuple #[u, .int .i64 e] ∧ readyE o rows e ∧ (e = 0 → OwB F 5 u (packB rows))
theorem ready_post {a : Nat} {o : Bool} {v w : Value} {R R1 RA F : Hl} {K : List Hl} {rows : List (List Int)} (h1 : R.cell a 3 = some (.bool o)) (h2 : RowsB R1 RA v rows) (hp : readyS.post [.pointer (some ⟨a, 0, none⟩), v] [] [R, R1, RA] w K F) :
    ∃ u e, w = .tuple #[u, .int .i64 e] ∧ readyE o rows e ∧ (e = 0 → OwB F 5 u (packB rows)) := by
  obtain ⟨p', v', a', o', R', R1', RA', rows', u, e, e1, e2, e3, e4, e5, hw, hE, hO⟩ := hp
  simp only [List.cons.injEq, and_true] at e1 e2
  obtain ⟨ep, ev⟩ := e1
  obtain ⟨x1, x2, x3⟩ := e2
  subst ep ev x1 x2 x3
  have ea : a = a' := by simpa using e3
  subst ea
  have eo : o = o' := by simpa using h1.symm.trans e4
  subst eo
  obtain rfl := h2.uniq e5
  exact ⟨u, e, hw, hE, hO⟩
theorem packed_post {v w : Value} {R RA F : Hl} {K : List Hl} {rows : List (List Int)} (h2 : RowsB R RA v rows) (hp : packedS.post [v] [] [R, RA] w K F) :
    ∃ u e, w = .tuple #[u, .int .i64 e] ∧ (packOk rows → e = 0 ∧ OwB F 5 u (packB rows)) ∧ (¬ packOk rows → e = 3) := by
  obtain ⟨v', R', RA', rows', u, e, e1, e2, e5, hw, hE, hO⟩ := hp
  simp only [List.cons.injEq, and_true] at e1 e2
  obtain ⟨x2, x3⟩ := e2
  subst e1 x2 x3
  obtain rfl := h2.uniq e5
  exact ⟨u, e, hw, hE, hO⟩
def rdyΓ : List Sx.Spec := [packedS]
theorem rdyΓ_ok : ∀ t ∈ rdyΓ, t.OK Tryd.prog := fun t ht => by
  simp only [rdyΓ, List.mem_cons, List.mem_nil_iff, or_false] at ht
  rw [ht]; exact packedS_ok
def readyNd : Nd := .and (.e (.le (.lit 0) (.var 0))) (.and (.e (.his 5 (.var 0) (.lit 3) 0 .bool)) (.and (.imp (.hB 5 (.var 0) (.lit 3) 0) (.post [.ro 5 [.var 0] false, .ro 6 [.var 1] false, .ro 7 [] true] (.tup [.one (.sl (.lit (-1)) (.lit 0) (.lit 0) (.lit 0)), .one (.int .i64 (.lit 5))]))) (.imp (.not (.hB 5 (.var 0) (.lit 3) 0)) (.and (.pre (.call 0 8 [.sv (.one (.sl (.var 1) (.var 2) (.var 3) (.var 4)))] [] [.ro 6 [.var 1] false, .ro 7 [] true])) (.ext (.call 0 8 [.sv (.one (.sl (.var 1) (.var 2) (.var 3) (.var 4)))] [] [.ro 6 [.var 1] false, .ro 7 [] true]) (.post [.ro 5 [.var 0] false, .ro 6 [.var 1] false, .ro 7 [] true, .hp 8 [] [.var 8] []] (.tup [.one (.sl (.var 8) (.var 9) (.var 10) (.var 11)), .one (.int .i64 (.var 12))])))))))
def readyW : Walk Tryd.prog rdyΓ readyS.fn where
  Λ := noLoops
  args := [TP (.var 0) (.lit 0), .sv (.one (.sl (.var 1) (.var 2) (.var 3) (.var 4)))]
  mem := [.ro 5 [.var 0] false, .ro 6 [.var 1] false, .ro 7 [] true]
  nv := 8
  nd := readyNd
  ok := by kernel_rfl
theorem rdg0 : rdyΓ[0]? = some packedS := rfl
theorem rdr0 : packedS.res = [.one .sl, .one (.int .i64)] := rfl
open Classical in
theorem readyS_ok : readyS.OK Tryd.prog := by
  refine Spec.of_fn (Γ := rdyΓ) rdyΓ_ok ?_
  rintro xs Hs Rs hl1 hl2 ⟨p, v, a, o, R, R1, RA, rows, rfl, rfl, rfl, hc, hB, hlen, hrow⟩
  have e0 : Hs = [] := List.length_eq_zero_iff.1 hl1
  subst e0
  obtain ⟨us, x, y, c, rfl, hy, hul, hcell, hrd⟩ := id hB
  refine ⟨readyW, envI [(a : Int), x, y, us.length, c] false [Hl.none, Hl.none, Hl.none, Hl.none, Hl.none, R, R1, RA], fun _ _ => True, fun _ _ => 0, ?_, ⟨?_, ?_, ?_, ?_⟩, (fun _ h => nomatch h), ?_⟩
  · show [Value.pointer (slP (a : Int) 0), Value.slice (slP x y) ((us.length : Int)).toNat ((c : Int)).toNat] = _
    rw [Int.toNat_natCast, Int.toNat_natCast, ptr0]
  · intro r hr ho; simp [readyW] at hr; rcases hr with rfl | rfl | rfl <;> cases ho
  · intro r hr ho; simp [readyW] at hr
    rcases hr with rfl | rfl | rfl
    · exact ⟨R, by simp, Hl.le_refl _⟩
    · exact ⟨R1, by simp, Hl.le_refl _⟩
    · exact ⟨RA, by simp, Hl.le_refl _⟩
  · simp [readyW, Res.own]
  · intro r hr; simp [readyW] at hr; rcases hr with rfl | rfl | rfl <;> trivial
  · show Nd.holds _ _ _ readyNd
    generalize hρ : envI [(a : Int), x, y, us.length, c] false [Hl.none, Hl.none, Hl.none, Hl.none, Hl.none, R, R1, RA] = ρ
    have v0 : ρ.i 0 = a := by rw [← hρ]; rfl
    have v1 : ρ.i 1 = x := by rw [← hρ]; rfl
    have v2 : ρ.i 2 = y := by rw [← hρ]; rfl
    have v3 : ρ.i 3 = us.length := by rw [← hρ]; rfl
    have v4 : ρ.i 4 = c := by rw [← hρ]; rfl
    have w5 : ρ.h 5 = R := by rw [← hρ]; rfl
    have w6 : ρ.h 6 = R1 := by rw [← hρ]; rfl
    have w7 : ρ.h 7 = RA := by rw [← hρ]; rfl
    clear hρ
    have t3 : Int.toNat 3 = 3 := rfl
    unfold readyNd
    simp only [Nd.holds, X.pre, X.rel, X.n, Src.ok, Src.len, Src.vals, true_and, and_true, if_true, Nat.mul_one, Nat.add_zero, Nat.reduceAdd, List.length_cons, List.length_nil, bT_tt, bT_ff, bT_bvar, bT_not, bT_and, bT_or, bT_ite, bT_lt, bT_le, bT_eq, bT_beq, bT_seq, bT_hB, bT_his, bT_hby, bT_hism, bT_hks, iev_lit, iev_var, iev_add, iev_sub, iev_mul, iev_wrap, iev_ite, iev_hI, iev_hP, iev_hmlen, sev_ite, sev_slit, sev_sof, sev_svar, TV.ev, SV.ev, CV.ev, List.map_cons, List.map_nil, Res.hl, cpTV, Cp.sv, Ck.cv, cpSVs, Cp.len, Ck.len, newHs_zero, newHs_one, roots_ne, rdg0, rdr0, rsi, t3]
    rw [v0, v1, v2, v3, v4, w5, w6, w7, Int.toNat_natCast, Int.toNat_natCast, Int.toNat_natCast, hc]
    refine ⟨by omega, rfl, fun ho _ => ?_, fun ho => ⟨⟨_, R1, RA, rows, rfl, rfl, hB, hlen, hrow⟩, fun q1 g1 ⟨F1, hp1, hF1, hn1⟩ _ => ?_⟩⟩
    · have ho : o = true := ho
      refine ⟨[], [], rfl, rfl, ⟨⟨fun j => [-1, 0, 0, 0, 5].getD j 0, fun _ => false, fun _ => .empty, fun _ => .tuple #[], fun _ => Hl.none⟩, rfl, ⟨Int.le_refl _, Int.le_refl _, Int.le_refl _, Int.le_refl _⟩, trivial, trivial⟩, _, _, a, o, R, R1, RA, rows, .slice none 0 0, 5, rfl, rfl, rfl, hc, hB, rfl, ⟨fun _ => rfl, fun h => absurd (ho.symm.trans h) (by simp), fun h => absurd (ho.symm.trans h) (by simp)⟩, fun h => absurd h (by decide)⟩
    · have ho : ¬ o = true := ho
      obtain ⟨u, e, hw, hy1, hy2⟩ := packed_post hB hp1
      simp only [Value.tuple.injEq, Array.mk.injEq, List.cons.injEq, Value.int.injEq, true_and, and_true] at hw
      obtain ⟨eu, ee⟩ := hw
      have hn : -1 ≤ q1.i 8 ∧ 0 ≤ q1.i 9 ∧ 0 ≤ q1.i 10 ∧ 0 ≤ q1.i 11 := hn1.1
      refine ⟨[], [3], rfl, rfl, ⟨⟨fun j => [q1.i 8, q1.i 9, q1.i 10, q1.i 11, q1.i 12].getD j 0, fun _ => false, fun _ => .empty, fun _ => .tuple #[], fun _ => Hl.none⟩, rfl, hn, trivial, trivial⟩, _, _, a, o, R, R1, RA, rows, .slice (slP (q1.i 8) (q1.i 9)) (q1.i 10).toNat (q1.i 11).toNat, q1.i 12, rfl, rfl, rfl, hc, hB, rfl, ⟨fun h => absurd h ho, fun _ h => ?_, fun _ h => ?_⟩, fun h => ?_⟩
      · rw [ee]; exact (hy1 h).1
      · rw [ee]; exact hy2 h
      · show OwB (hls [q1.h 8]) _ _ _
        rw [hls_one, hF1 trivial, eu]
        by_cases hk : packOk rows
        · exact (hy1 hk).2
        · have := hy2 hk; omega
end Go.Proofs.YtomdimlnggpgbaaDoor
namespace Go.Proofs.YtomdimlnggpgbaaDoor
open Go Go.Sx Go.Pk
open Go.Proofs.YtomdimlnggpgbaaDoor.D hiding envI noLoops numS
theorem RowsR.rep {F : Hl} {v : Value} {rows : List (List Int)} (h : RowsR F v rows) : ∃ (x : Int) (c : Nat), -1 ≤ x ∧ v = .slice (slP x 0) rows.length c := by
  obtain ⟨us, ho, _⟩ := h
  rcases ho.2 with ⟨h, hn⟩ | ⟨g, cap, cur, h, _⟩
  · exact ⟨-1, 0, by omega, by rw [slP_nil, hn]; exact h⟩
  · exact ⟨g, cap, by omega, by rw [slP_pos (by omega)]; simpa using h⟩
structure AdR where
  e : Int
  D : DM
  S : SM
def addD (D : DM) (S : SM) (rows : List (List Int)) (r : AR) : AdR :=
  ⟨numC r.e, r.D, ⟨r.L, r.bs, S.LB, S.bB, if numC r.e = 0 then S.recs ++ rows else S.recs, if r.e ≠ 0 ∧ gi r.e = gLost then true else S.over⟩⟩
open Classical in
noncomputable def addR (D : DM) (S : SM) (rows : List (List Int)) : AdR :=
  if S.over = true then ⟨5, D, S⟩
  else if ¬ packOk rows then ⟨3, D, S⟩
  else if rows = [] then ⟨0, D, S⟩
  else if S.LA.most - S.bA.length < (packB rows).length then ⟨4, D, S⟩
  else addD D S rows (appendR D S.LA S.bA (packB rows) S.LA.note)
noncomputable def addS : Sx.Spec where
  fn := 11
  own := [.arg 0, .link 0 0]
  rd := [1, 3000001, 2000000]
  res := [.one (.int .i64)]
  pre := fun xs Hs Rs => ∃ p v H HD R RA RG g dp S D rows, xs = [p, v] ∧ Hs = [H, HD] ∧ Rs = [R, RA, RG] ∧ StoreAt H p dp S ∧ DiskAt HD dp D ∧ RowsB R RA v rows ∧ Gl RG g ∧ rows.length ≤ 1000000 ∧ (∀ r ∈ rows, r.length ≤ 1000000) ∧ S.bA.length ≤ 1048576 ∧ 0 ≤ S.LA.serial ∧ S.recs.length ≤ 1000000000
  post := fun xs Hs Rs w Hs' F => ∃ p v H HD R RA RG dp S D rows H' HD', xs = [p, v] ∧ Hs = [H, HD] ∧ Rs = [R, RA, RG] ∧ StoreAt H p dp S ∧ DiskAt HD dp D ∧ RowsB R RA v rows ∧ Hs' = [H', HD'] ∧ DiskAt HD' dp (addR D S rows).D ∧ StoreAt H' p dp (addR D S rows).S ∧ w = .int .i64 (addR D S rows).e
theorem room_of {L : LM} {bs : List Int} {q : Env} {n : Nat} (h : Value.int .i64 (q.i n) = .int .i64 (L.most - bs.length)) : q.i n = L.most - bs.length := by simpa using h
noncomputable def adΓ : List Sx.Spec := [readyS, roomS, lnoteS, appendS, wrappedS, isS, numberE, cloneSS]
theorem adΓ_ok : ∀ t ∈ adΓ, t.OK Tryd.prog := fun t ht => by
  simp only [adΓ, List.mem_cons, List.mem_nil_iff, or_false] at ht
  rcases ht with rfl | rfl | rfl | rfl | rfl | rfl | rfl | rfl
  · exact readyS_ok
  · exact roomS_ok
  · exact lnoteS_ok
  · exact appendS_ok
  · exact wrappedS_ok
  · exact isS_ok
  · exact numberE_ok
  · exact cloneSS_ok
def addNd : Nd := .and (.pre (.call 0 19 [.sv (.one (.hptr (.var 0) (.lit 0))), .sv (.one (.sl (.var 1) (.var 2) (.var 3) (.var 4)))] [] [.blk 0 [.hptr (.var 5) (.lit 0), .hptr (.var 6) (.lit 0), .sl (.var 7) (.lit 0) (.var 8) (.var 9), .bool (.bvar 10)] 70, .ro 16 [.var 1] false, .ro 17 [] true])) (.ext (.call 0 19 [.sv (.one (.hptr (.var 0) (.lit 0))), .sv (.one (.sl (.var 1) (.var 2) (.var 3) (.var 4)))] [] [.blk 0 [.hptr (.var 5) (.lit 0), .hptr (.var 6) (.lit 0), .sl (.var 7) (.lit 0) (.var 8) (.var 9), .bool (.bvar 10)] 70, .ro 16 [.var 1] false, .ro 17 [] true]) (.and (.imp (.eq (.var 23) (.lit 0)) (.and (.e (.le (.lit 0) (.var 3))) (.and (.imp (.eq (.var 3) (.lit 0)) (.post [.blk 0 [.hptr (.var 5) (.lit 0), .hptr (.var 6) (.lit 0), .sl (.var 7) (.lit 0) (.var 8) (.var 9), .bool (.bvar 10)] 70, .hp 12 [] [.var 5] [.var 11], .hp 13 [] [.var 6] [.var 11], .hp 14 [] [.var 7] [], .hp 15 [] [.var 11] [], .ro 16 [.var 1] false, .ro 17 [] true, .ro 18 [.lit 0, .lit 1, .lit 2] false, .hp 19 [] [.var 19] []] (.sv (.one (.int .i64 (.var 23)))))) (.imp (.not (.eq (.var 3) (.lit 0))) (.and (.e (.le (.lit 0) (.var 21))) (.and (.pre (.call 1 24 [.sv (.one (.hptr (.var 5) (.lit 0)))] [] [.hp 12 [] [.var 5] [.var 11]])) (.ext (.call 1 24 [.sv (.one (.hptr (.var 5) (.lit 0)))] [] [.hp 12 [] [.var 5] [.var 11]]) (.and (.imp (.lt (.var 24) (.var 21)) (.post [.blk 0 [.hptr (.var 5) (.lit 0), .hptr (.var 6) (.lit 0), .sl (.var 7) (.lit 0) (.var 8) (.var 9), .bool (.bvar 10)] 70, .hp 12 [] [.var 5] [.var 11], .hp 13 [] [.var 6] [.var 11], .hp 14 [] [.var 7] [], .hp 15 [] [.var 11] [], .ro 16 [.var 1] false, .ro 17 [] true, .ro 18 [.lit 0, .lit 1, .lit 2] false, .hp 19 [] [.var 19] []] (.sv (.one (.int .i64 (.lit 4)))))) (.imp (.not (.lt (.var 24) (.var 21))) (.and (.pre (.call 2 25 [.sv (.one (.hptr (.var 5) (.lit 0)))] [] [.hp 12 [] [.var 5] [.var 11]])) (.ext (.call 2 25 [.sv (.one (.hptr (.var 5) (.lit 0)))] [] [.hp 12 [] [.var 5] [.var 11]]) (.and (.pre (.call 3 41 [.sv (.one (.hptr (.var 5) (.lit 0))), .sv (.one (.sl (.var 19) (.var 20) (.var 21) (.var 22))), .sv (.agg (ckCVs 25 (List.replicate 16 (Ck.int .u8))))] [.hp 12 [] [.var 5] [.var 11], .hp 15 [] [.var 11] []] [.hp 19 [] [.var 19] []])) (.ext (.call 3 41 [.sv (.one (.hptr (.var 5) (.lit 0))), .sv (.one (.sl (.var 19) (.var 20) (.var 21) (.var 22))), .sv (.agg (ckCVs 25 (List.replicate 16 (Ck.int .u8))))] [.hp 12 [] [.var 5] [.var 11], .hp 15 [] [.var 11] []] [.hp 19 [] [.var 19] []]) (.and (.pre (.call 4 44 [.sv (.one (.str (.slit ⟨#[97, 100, 100]⟩))), .sv (.one (.int .i64 (.var 41)))] [] [.ro 18 [.lit 0, .lit 1, .lit 2] false])) (.ext (.call 4 44 [.sv (.one (.str (.slit ⟨#[97, 100, 100]⟩))), .sv (.one (.int .i64 (.var 41)))] [] [.ro 18 [.lit 0, .lit 1, .lit 2] false]) (.and (.e (.his 18 (.lit 0) (.lit 0) 0 .any)) (.and (.pre (.call 5 45 [.sv (.one (.vr 44)), .sv (.one (.hv 18 (.lit 0) (.lit 0) 0))] [] [.ro 18 [.lit 0, .lit 1, .lit 2] false])) (.ext (.call 5 45 [.sv (.one (.vr 44)), .sv (.one (.hv 18 (.lit 0) (.lit 0) 0))] [] [.ro 18 [.lit 0, .lit 1, .lit 2] false]) (.and (.imp (.bvar 45) (.and (.pre (.call 6 46 [.sv (.one (.vr 44))] [] [.ro 18 [.lit 0, .lit 1, .lit 2] false])) (.ext (.call 6 46 [.sv (.one (.vr 44))] [] [.ro 18 [.lit 0, .lit 1, .lit 2] false]) (.and (.imp (.not (.eq (.var 46) (.lit 0))) (.post [.blk 0 [.hptr (.var 5) (.lit 0), .hptr (.var 6) (.lit 0), .sl (.var 7) (.lit 0) (.var 8) (.var 9), .bool .tt] 70, .hp 41 [12] [.var 5] [.var 11], .hp 13 [] [.var 6] [.var 11], .hp 14 [] [.var 7] [], .hp 42 [15] [.var 11] [], .ro 16 [.var 1] false, .ro 17 [] true, .ro 18 [.lit 0, .lit 1, .lit 2] false, .hp 19 [] [.var 19] []] (.sv (.one (.int .i64 (.var 46)))))) (.imp (.eq (.var 46) (.lit 0)) (.and (.inv 0 [⟨60, 0, .int .i64 (.lit 0)⟩, ⟨61, 0, .int .i64 (.var 7)⟩, ⟨62, 0, .int .i64 (.var 8)⟩, ⟨63, 0, .int .i64 (.var 9)⟩, ⟨65, 1, .bool .tt⟩] [(64, some 14)]) (.havoc 0 0 47 (.and (.imp (.lt (.var 60) (.var 3)) (.and (.e (.le (.lit 0) (.var 1))) (.and (.e (.le (.lit 0) (.var 2))) (.and (.e (.le (.lit 0) (.var 60))) (.and (.e (.his 16 (.var 1) (.add (.var 2) (.var 60)) 0 .slice)) (.and (.pre (.call 7 66 [.sv (.one (.sl (.hP 16 (.var 1) (.add (.var 2) (.var 60)) 0 0) (.hP 16 (.var 1) (.add (.var 2) (.var 60)) 0 1) (.hP 16 (.var 1) (.add (.var 2) (.var 60)) 0 2) (.hP 16 (.var 1) (.add (.var 2) (.var 60)) 0 3)))] [] [.ro 17 [] true])) (.ext (.call 7 66 [.sv (.one (.sl (.hP 16 (.var 1) (.add (.var 2) (.var 60)) 0 0) (.hP 16 (.var 1) (.add (.var 2) (.var 60)) 0 1) (.hP 16 (.var 1) (.add (.var 2) (.var 60)) 0 2) (.hP 16 (.var 1) (.add (.var 2) (.var 60)) 0 3)))] [] [.ro 17 [] true]) (.ext (.alloc 70) (.ext (.mrg 71 (.hp 64 [] [.var 61] []) (.hp 66 [] [.var 66] [])) (.and (.pre (.app 72 30 1 24 (.sl (.var 61) (.lit 0) (.var 62) (.var 63)) (.var 62) (.hp 71 [64, 66] [.var 61, .var 66, .var 66] []) (.cvs [.sl (.var 66) (.var 67) (.var 68) (.var 69)] 1))) (.ext (.app 72 30 1 24 (.sl (.var 61) (.lit 0) (.var 62) (.var 63)) (.var 62) (.hp 71 [64, 66] [.var 61, .var 66, .var 66] []) (.cvs [.sl (.var 66) (.var 67) (.var 68) (.var 69)] 1)) (.back 0 0 [⟨60, 0, .int .i64 (.wrap .i64 (.add (.var 60) (.lit 1)))⟩, ⟨61, 0, .int .i64 (.var 72)⟩, ⟨62, 0, .int .i64 (.add (.var 62) (.lit 1))⟩, ⟨63, 0, .int .i64 (.var 73)⟩, ⟨65, 1, .bool (.bvar 65)⟩] [(64, some 72)])))))))))))) (.imp (.not (.lt (.var 60) (.var 3))) (.post [.blk 0 [.hptr (.var 5) (.lit 0), .hptr (.var 6) (.lit 0), .sl (.var 61) (.lit 0) (.var 62) (.var 63), .bool (.bvar 65)] 70, .hp 41 [12] [.var 5] [.var 11], .hp 13 [] [.var 6] [.var 11], .hp 64 [] [.var 61] [], .hp 42 [15] [.var 11] [], .ro 16 [.var 1] false, .ro 17 [] true, .ro 18 [.lit 0, .lit 1, .lit 2] false, .hp 19 [] [.var 19] []] (.sv (.one (.int .i64 (.lit 0)))))))))))))) (.imp (.not (.bvar 45)) (.and (.pre (.call 6 46 [.sv (.one (.vr 44))] [] [.ro 18 [.lit 0, .lit 1, .lit 2] false])) (.ext (.call 6 46 [.sv (.one (.vr 44))] [] [.ro 18 [.lit 0, .lit 1, .lit 2] false]) (.and (.imp (.not (.eq (.var 46) (.lit 0))) (.post [.blk 0 [.hptr (.var 5) (.lit 0), .hptr (.var 6) (.lit 0), .sl (.var 7) (.lit 0) (.var 8) (.var 9), .bool (.bvar 10)] 70, .hp 41 [12] [.var 5] [.var 11], .hp 13 [] [.var 6] [.var 11], .hp 14 [] [.var 7] [], .hp 42 [15] [.var 11] [], .ro 16 [.var 1] false, .ro 17 [] true, .ro 18 [.lit 0, .lit 1, .lit 2] false, .hp 19 [] [.var 19] []] (.sv (.one (.int .i64 (.var 46)))))) (.imp (.eq (.var 46) (.lit 0)) (.and (.inv 0 [⟨60, 0, .int .i64 (.lit 0)⟩, ⟨61, 0, .int .i64 (.var 7)⟩, ⟨62, 0, .int .i64 (.var 8)⟩, ⟨63, 0, .int .i64 (.var 9)⟩, ⟨65, 1, .bool (.bvar 10)⟩] [(64, some 14)]) (.havoc 0 0 47 (.and (.imp (.lt (.var 60) (.var 3)) (.and (.e (.le (.lit 0) (.var 1))) (.and (.e (.le (.lit 0) (.var 2))) (.and (.e (.le (.lit 0) (.var 60))) (.and (.e (.his 16 (.var 1) (.add (.var 2) (.var 60)) 0 .slice)) (.and (.pre (.call 7 66 [.sv (.one (.sl (.hP 16 (.var 1) (.add (.var 2) (.var 60)) 0 0) (.hP 16 (.var 1) (.add (.var 2) (.var 60)) 0 1) (.hP 16 (.var 1) (.add (.var 2) (.var 60)) 0 2) (.hP 16 (.var 1) (.add (.var 2) (.var 60)) 0 3)))] [] [.ro 17 [] true])) (.ext (.call 7 66 [.sv (.one (.sl (.hP 16 (.var 1) (.add (.var 2) (.var 60)) 0 0) (.hP 16 (.var 1) (.add (.var 2) (.var 60)) 0 1) (.hP 16 (.var 1) (.add (.var 2) (.var 60)) 0 2) (.hP 16 (.var 1) (.add (.var 2) (.var 60)) 0 3)))] [] [.ro 17 [] true]) (.ext (.alloc 70) (.ext (.mrg 71 (.hp 64 [] [.var 61] []) (.hp 66 [] [.var 66] [])) (.and (.pre (.app 72 30 1 24 (.sl (.var 61) (.lit 0) (.var 62) (.var 63)) (.var 62) (.hp 71 [64, 66] [.var 61, .var 66, .var 66] []) (.cvs [.sl (.var 66) (.var 67) (.var 68) (.var 69)] 1))) (.ext (.app 72 30 1 24 (.sl (.var 61) (.lit 0) (.var 62) (.var 63)) (.var 62) (.hp 71 [64, 66] [.var 61, .var 66, .var 66] []) (.cvs [.sl (.var 66) (.var 67) (.var 68) (.var 69)] 1)) (.back 0 0 [⟨60, 0, .int .i64 (.wrap .i64 (.add (.var 60) (.lit 1)))⟩, ⟨61, 0, .int .i64 (.var 72)⟩, ⟨62, 0, .int .i64 (.add (.var 62) (.lit 1))⟩, ⟨63, 0, .int .i64 (.var 73)⟩, ⟨65, 1, .bool (.bvar 65)⟩] [(64, some 72)])))))))))))) (.imp (.not (.lt (.var 60) (.var 3))) (.post [.blk 0 [.hptr (.var 5) (.lit 0), .hptr (.var 6) (.lit 0), .sl (.var 61) (.lit 0) (.var 62) (.var 63), .bool (.bvar 65)] 70, .hp 41 [12] [.var 5] [.var 11], .hp 13 [] [.var 6] [.var 11], .hp 64 [] [.var 61] [], .hp 42 [15] [.var 11] [], .ro 16 [.var 1] false, .ro 17 [] true, .ro 18 [.lit 0, .lit 1, .lit 2] false, .hp 19 [] [.var 19] []] (.sv (.one (.int .i64 (.lit 0))))))))))))))))))))))))))))))))) (.imp (.not (.eq (.var 23) (.lit 0))) (.post [.blk 0 [.hptr (.var 5) (.lit 0), .hptr (.var 6) (.lit 0), .sl (.var 7) (.lit 0) (.var 8) (.var 9), .bool (.bvar 10)] 70, .hp 12 [] [.var 5] [.var 11], .hp 13 [] [.var 6] [.var 11], .hp 14 [] [.var 7] [], .hp 15 [] [.var 11] [], .ro 16 [.var 1] false, .ro 17 [] true, .ro 18 [.lit 0, .lit 1, .lit 2] false, .hp 19 [] [.var 19] []] (.sv (.one (.int .i64 (.var 23))))))))
noncomputable def addW : Walk Tryd.prog adΓ addS.fn where
  Λ := fun p => if lp0 p then some ⟨0, [(51, TI .i64 (.var 60))], [(0, .blk 0 [.hptr (.var 5) (.lit 0), .hptr (.var 6) (.lit 0), .sl (.var 61) (.lit 0) (.var 62) (.var 63), .bool (.bvar 65)] 70), (3, .hp 64 [] [.var 61] [])], 66⟩ else none
  args := [TP (.var 0) (.lit 0), .sv (.one (.sl (.var 1) (.var 2) (.var 3) (.var 4)))]
  mem := [.blk 0 [.hptr (.var 5) (.lit 0), .hptr (.var 6) (.lit 0), .sl (.var 7) (.lit 0) (.var 8) (.var 9), .bool (.bvar 10)] 70, .hp 12 [] [.var 5] [.var 11], .hp 13 [] [.var 6] [.var 11], .hp 14 [] [.var 7] [], .hp 15 [] [.var 11] [], .ro 16 [.var 1] false, .ro 17 [] true, .ro 18 [.lit 0, .lit 1, .lit 2] false]
  nv := 19
  nd := addNd
  ok := by kernel_rfl
theorem adg0 : adΓ[0]? = some readyS := rfl
theorem adg1 : adΓ[1]? = some roomS := rfl
theorem adg2 : adΓ[2]? = some lnoteS := rfl
theorem adg3 : adΓ[3]? = some appendS := rfl
theorem adg4 : adΓ[4]? = some wrappedS := rfl
theorem adg5 : adΓ[5]? = some isS := rfl
theorem adg6 : adΓ[6]? = some numberE := rfl
theorem adg7 : adΓ[7]? = some cloneSS := rfl
theorem adr0 : readyS.res = [.one .sl, .one (.int .i64)] := rfl
theorem adr1 : roomS.res = [.one (.int .i64)] := rfl
theorem adr2 : lnoteS.res = [.agg (u8s 16)] := rfl
theorem adr3 : appendS.res = [.one (.int .i64)] := rfl
theorem adr4 : wrappedS.res = [.one .any] := rfl
theorem adr5 : isS.res = [.one .bool] := rfl
theorem adr6 : numberE.res = [.one (.int .i64)] := rfl
theorem adr7 : cloneSS.res = [.one .sl] := rfl
set_option maxRecDepth 8000 in
theorem addS_ok : addS.OK Tryd.prog := by
  refine spec_of_fn2 (Γ := adΓ) adΓ_ok ?_
  rintro xs Hs Rs hl1 hl2 hdis ⟨p, v, H, HD, R, RA, RG, g, dp, S, D, rows, rfl, rfl, rfl, hAt, hD, hB, hG, hlen, hrow, hbA, hser, hrecs⟩
  obtain ⟨a, pa, pb, sl, HA, HB, HR, rfl, hIn⟩ := id hAt
  obtain ⟨us, x, y, c, rfl, hy, hul, hcell, hrd⟩ := id hB
  obtain ⟨da, s, m, es, clock, hdp, hDi⟩ := id hD
  obtain ⟨rx, rc, hrx, hsl⟩ := hIn.rows.rep
  obtain ⟨aa, _, _, hpa, _⟩ := id hIn.la
  obtain ⟨ab, _, _, hpb, _⟩ := id hIn.lb
  obtain ⟨l1, l2, l3, l4⟩ := hls4_le hIn.d1 hIn.d2 hIn.d3 hIn.d4 hIn.d5 hIn.d6
  rw [← hIn.hl] at l1 l2 l3 l4
  have hHD : H.dis HD := hdis 0 1 _ _ (by decide) rfl rfl
  generalize hρ : envI [(a : Int), x, y, us.length, c, aa, ab, rx, S.recs.length, rc, 0, da] S.over [Hl.none, Hl.none, Hl.none, Hl.none, Hl.none, Hl.none, Hl.none, Hl.none, Hl.none, Hl.none, Hl.none, Hl.none, HA, HB, HR, HD, R, RA, RG] = ρ
  have v0 : ρ.i 0 = a := by rw [← hρ]; rfl
  have v1 : ρ.i 1 = x := by rw [← hρ]; rfl
  have v2 : ρ.i 2 = y := by rw [← hρ]; rfl
  have v3 : ρ.i 3 = us.length := by rw [← hρ]; rfl
  have v4 : ρ.i 4 = c := by rw [← hρ]; rfl
  have v5 : ρ.i 5 = aa := by rw [← hρ]; rfl
  have v6 : ρ.i 6 = ab := by rw [← hρ]; rfl
  have v7 : ρ.i 7 = rx := by rw [← hρ]; rfl
  have v8 : ρ.i 8 = S.recs.length := by rw [← hρ]; rfl
  have v9 : ρ.i 9 = rc := by rw [← hρ]; rfl
  have v11 : ρ.i 11 = da := by rw [← hρ]; rfl
  have b10 : ρ.b 10 = S.over := by rw [← hρ]; rfl
  have w12 : ρ.h 12 = HA := by rw [← hρ]; rfl
  have w13 : ρ.h 13 = HB := by rw [← hρ]; rfl
  have w14 : ρ.h 14 = HR := by rw [← hρ]; rfl
  have w15 : ρ.h 15 = HD := by rw [← hρ]; rfl
  have w16 : ρ.h 16 = R := by rw [← hρ]; rfl
  have w17 : ρ.h 17 = RA := by rw [← hρ]; rfl
  have w18 : ρ.h 18 = RG := by rw [← hρ]; rfl
  clear hρ
  have ea : Value.pointer (slP (aa : Int) 0) = pa := by rw [ptr0, hpa]
  have eb : Value.pointer (slP (ab : Int) 0) = pb := by rw [ptr0, hpb]
  have eBlk : ∀ (q : Env) (cs : CV) (o : E), q.i 0 = a → q.i 5 = aa → q.i 6 = ab → (Res.blk 0 [.hptr (.var 5) (.lit 0), .hptr (.var 6) (.lit 0), cs, .bool o] 70).hl q = sHl a pa pb (cs.ev q) (bev q o) := by
    intro q cs o h0 h5 h6
    show Hl.one (q.i 0).toNat (.cells #[Value.pointer (slP (q.i 5) 0), Value.pointer (slP (q.i 6) 0), cs.ev q, .bool (bev q o)] _ (0, 0)) = _
    rw [h0, h5, h6, ea, eb, Int.toNat_natCast]; rfl
  have e0 : (Res.blk 0 [.hptr (.var 5) (.lit 0), .hptr (.var 6) (.lit 0), .sl (.var 7) (.lit 0) (.var 8) (.var 9), .bool (.bvar 10)] 70).hl ρ = sHl a pa pb sl S.over := by
    rw [eBlk ρ _ _ v0 v5 v6, bev_bvar, b10]
    congr 1
    show Value.slice (slP (ρ.i 7) 0) (ρ.i 8).toNat (ρ.i 9).toNat = _
    rw [v7, v8, v9, Int.toNat_natCast, Int.toNat_natCast, hsl]
  refine ⟨addW, ρ, fun _ q => ∃ k : Nat, q.i 60 = k ∧ k ≤ rows.length ∧ -1 ≤ q.i 61 ∧ 0 ≤ q.i 62 ∧ 0 ≤ q.i 63 ∧ q.b 65 = false ∧ RowsR (q.h 64) (.slice (slP (q.i 61) 0) (q.i 62).toNat (q.i 63).toNat) (S.recs ++ rows.take k), fun _ q => (rows.length - q.i 60).toNat, ?_, ⟨?_, ?_, ?_, ?_⟩, (fun _ h => nomatch h), ?_⟩
  · show [Value.pointer (slP (ρ.i 0) 0), Value.slice (slP (ρ.i 1) (ρ.i 2)) (ρ.i 3).toNat (ρ.i 4).toNat] = _
    rw [v0, v1, v2, v3, v4, Int.toNat_natCast, Int.toNat_natCast, ptr0]
  · intro r hr ho
    simp only [addW, List.mem_cons, List.mem_nil_iff, or_false] at hr
    rcases hr with rfl | rfl | rfl | rfl | rfl | rfl | rfl | rfl
    · exact ⟨H, by simp, by rw [e0]; exact l1⟩
    · exact ⟨H, by simp, by show (ρ.h 12).le H; rw [w12]; exact l2⟩
    · exact ⟨H, by simp, by show (ρ.h 13).le H; rw [w13]; exact l3⟩
    · exact ⟨H, by simp, by show (ρ.h 14).le H; rw [w14]; exact l4⟩
    · exact ⟨HD, by simp, by show (ρ.h 15).le HD; rw [w15]; exact Hl.le_refl _⟩
    · cases ho
    · cases ho
    · cases ho
  · intro r hr ho
    simp only [addW, List.mem_cons, List.mem_nil_iff, or_false] at hr
    rcases hr with rfl | rfl | rfl | rfl | rfl | rfl | rfl | rfl
    · cases ho
    · cases ho
    · cases ho
    · cases ho
    · cases ho
    · exact ⟨R, by simp, by show (ρ.h 16).le R; rw [w16]; exact Hl.le_refl _⟩
    · exact ⟨RA, by simp, by show (ρ.h 17).le RA; rw [w17]; exact Hl.le_refl _⟩
    · exact ⟨RG, by simp, by show (ρ.h 18).le RG; rw [w18]; exact Hl.le_refl _⟩
  · have dD : ∀ K : Hl, K.le H → K.dis HD := fun K hK => Hl.dis_symm (Hl.dis_le (Hl.dis_symm hHD) hK)
    have mem4 : addW.mem = [.blk 0 [.hptr (.var 5) (.lit 0), .hptr (.var 6) (.lit 0), .sl (.var 7) (.lit 0) (.var 8) (.var 9), .bool (.bvar 10)] 70, .hp 12 [] [.var 5] [.var 11], .hp 13 [] [.var 6] [.var 11], .hp 14 [] [.var 7] [], .hp 15 [] [.var 11] [], .ro 16 [.var 1] false, .ro 17 [] true, .ro 18 [.lit 0, .lit 1, .lit 2] false] := rfl
    rw [mem4]
    have ro3 : ∀ (l : Mem), (∀ r ∈ l, r.own = false) → ∀ K : Res, ∀ r ∈ l, K.own = true → r.own = true → (K.hl ρ).dis (r.hl ρ) := fun l h K r hr _ ho => by rw [h r hr] at ho; cases ho
    have hro : ∀ r ∈ ([.ro 16 [.var 1] false, .ro 17 [] true, .ro 18 [.lit 0, .lit 1, .lit 2] false] : Mem), r.own = false := by
      intro r hr
      simp only [List.mem_cons, List.mem_nil_iff, or_false] at hr
      rcases hr with rfl | rfl | rfl <;> rfl
    refine List.Pairwise.cons (fun r hr hk ho => ?_) (List.Pairwise.cons (fun r hr hk ho => ?_) (List.Pairwise.cons (fun r hr hk ho => ?_) (List.Pairwise.cons (fun r hr hk ho => ?_) (List.Pairwise.cons (fun r hr hk ho => ro3 _ hro _ r hr hk ho) (List.Pairwise.cons (fun r hr hk ho => by cases hk) (List.Pairwise.cons (fun r hr hk ho => by cases hk) (List.Pairwise.cons (fun r hr => by cases hr) List.Pairwise.nil)))))))
    · rw [e0]
      rw [List.mem_cons, List.mem_cons, List.mem_cons, List.mem_cons] at hr
      rcases hr with rfl | rfl | rfl | rfl | hr
      · show (sHl a pa pb sl S.over).dis (ρ.h 12); rw [w12]; exact hIn.d1
      · show (sHl a pa pb sl S.over).dis (ρ.h 13); rw [w13]; exact hIn.d2
      · show (sHl a pa pb sl S.over).dis (ρ.h 14); rw [w14]; exact hIn.d3
      · show (sHl a pa pb sl S.over).dis (ρ.h 15); rw [w15]; exact dD _ l1
      · rw [hro r hr] at ho; cases ho
    · rw [List.mem_cons, List.mem_cons, List.mem_cons] at hr
      show (ρ.h 12).dis _
      rw [w12]
      rcases hr with rfl | rfl | rfl | hr
      · show HA.dis (ρ.h 13); rw [w13]; exact hIn.d4
      · show HA.dis (ρ.h 14); rw [w14]; exact hIn.d5
      · show HA.dis (ρ.h 15); rw [w15]; exact dD _ l2
      · rw [hro r hr] at ho; cases ho
    · rw [List.mem_cons, List.mem_cons] at hr
      show (ρ.h 13).dis _
      rw [w13]
      rcases hr with rfl | rfl | hr
      · show HB.dis (ρ.h 14); rw [w14]; exact hIn.d6
      · show HB.dis (ρ.h 15); rw [w15]; exact dD _ l3
      · rw [hro r hr] at ho; cases ho
    · rw [List.mem_cons] at hr
      show (ρ.h 14).dis _
      rw [w14]
      rcases hr with rfl | hr
      · show HR.dis (ρ.h 15); rw [w15]; exact dD _ l4
      · rw [hro r hr] at ho; cases ho
  · intro r hr
    simp only [addW, List.mem_cons, List.mem_nil_iff, or_false] at hr
    rcases hr with rfl | rfl | rfl | rfl | rfl | rfl | rfl | rfl
    · show (0 : Int) ≤ ρ.i 0; omega
    all_goals trivial
  · show Nd.holds _ _ _ addNd
    have fin : ∀ (q : Env) (hL hR hK : Nat) (vL vM vR vK : List Nat) (rL rM rR rK kL kM kR kK : List E) (cs : CV) (o rv : E) (t : Mem), Agree 19 ρ q →
        LogAt (q.h hL) pa dp (addR D S rows).S.LA (addR D S rows).S.bA → (addR D S rows).S.LB = S.LB ∧ (addR D S rows).S.bB = S.bB → RowsR (q.h hR) (cs.ev q) (addR D S rows).S.recs → bev q o = (addR D S rows).S.over → DiskAt (q.h hK) dp (addR D S rows).D → iev q rv = (addR D S rows).e →
        postOf addS [.pointer (some ⟨a, 0, none⟩), .slice (slP x y) us.length c] [H, HD] [R, RA, RG] q (.blk 0 [.hptr (.var 5) (.lit 0), .hptr (.var 6) (.lit 0), cs, .bool o] 70 :: .hp hL vL rL kL :: .hp 13 vM rM kM :: .hp hR vR rR kR :: .hp hK vK rK kK :: t) (.sv (.one (.int .i64 rv))) := by
      intro q hL hR hK vL vM vR vK rL rM rR rK kL kM kR kK cs o rv t hg hLq hSB hRq hoq hDq heq hd
      have g0 : q.i 0 = a := by rw [hg.i 0 (by omega), v0]
      have g5 : q.i 5 = aa := by rw [hg.i 5 (by omega), v5]
      have g6 : q.i 6 = ab := by rw [hg.i 6 (by omega), v6]
      have eq0 := eBlk q cs o g0 g5 g6
      rw [hoq] at eq0
      refine ⟨[[0, 1, 2, 3], [4]], [], rfl, rfl, ⟨⟨fun _ => (addR D S rows).e, fun _ => false, fun _ => .empty, fun _ => .tuple #[], fun _ => Hl.none⟩, ?_, trivial, trivial⟩, _, _, H, HD, R, RA, RG, dp, S, D, rows, _, _, rfl, rfl, rfl, hAt, hD, hB, rfl, ?_, ?_, ?_⟩
      · show Value.int .i64 (iev q rv) = .int .i64 (addR D S rows).e
        rw [heq]
      · show DiskAt (hls [q.h hK]) _ _
        rw [hls_one]; exact hDq
      · refine ⟨a, pa, pb, cs.ev q, q.h hL, q.h 13, q.h hR, rfl, hLq, ?_, hRq, ?_, ?_, ?_, hd 1 2 _ _ (by decide) rfl rfl rfl, hd 1 3 _ _ (by decide) rfl rfl rfl, hd 2 3 _ _ (by decide) rfl rfl rfl, ?_⟩
        · rw [hSB.1, hSB.2, hg.h 13 (by omega), w13]; exact hIn.lb
        · rw [← eq0]; exact hd 0 1 _ _ (by decide) rfl rfl rfl
        · rw [← eq0]; exact hd 0 2 _ _ (by decide) rfl rfl rfl
        · rw [← eq0]; exact hd 0 3 _ _ (by decide) rfl rfl rfl
        · rw [← eq0]; rfl
      · show Value.int .i64 (iev q rv) = .int .i64 (addR D S rows).e
        rw [heq]
    unfold addNd
    simp only [Nd.holds, X.pre, X.rel, X.n, Src.ok, Src.len, Src.vals, true_and, and_true, if_true, Nat.mul_one, Nat.add_zero, Nat.reduceAdd, List.length_cons, List.length_nil, bT_tt, bT_ff, bT_bvar, bT_not, bT_and, bT_or, bT_ite, bT_lt, bT_le, bT_eq, bT_beq, bT_seq, bT_hB, bT_his, bT_hby, bT_hism, bT_hks, iev_lit, iev_var, iev_add, iev_sub, iev_mul, iev_wrap, iev_ite, iev_hI, iev_hP, iev_hmlen, sev_ite, sev_slit, sev_sof, sev_svar, TV.ev, SV.ev, CV.ev, List.map_cons, List.map_nil, Res.hl, cpTV, Cp.sv, Ck.cv, cpSVs, Cp.len, Ck.len, newHs_zero, newHs_one, roots_ne, adg0, adg1, adg2, adg3, adg4, adg5, adg6, adg7, adr0, adr1, adr2, adr3, adr4, adr5, adr6, adr7, rsl, rsi]
    have evs : Value.slice (slP (ρ.i 7) 0) (ρ.i 8).toNat (ρ.i 9).toNat = sl := by rw [v7, v8, v9, Int.toNat_natCast, Int.toNat_natCast, hsl]
    have keepL : ∀ q : Env, Agree 19 ρ q → LogAt (q.h 12) pa dp S.LA S.bA ∧ RowsR (q.h 14) (CV.ev q (.sl (.var 7) (.lit 0) (.var 8) (.var 9))) S.recs ∧ bev q (.bvar 10) = S.over ∧ DiskAt (q.h 15) dp D := by
      intro q hg
      refine ⟨by rw [hg.h 12 (by omega), w12]; exact hIn.la, ?_, by rw [bev_bvar, hg.b 10 (by omega), b10], by rw [hg.h 15 (by omega), w15]; exact hD⟩
      show RowsR (q.h 14) (.slice (slP (q.i 7) 0) (q.i 8).toNat (q.i 9).toNat) _
      rw [hg.h 14 (by omega), hg.i 7 (by omega), hg.i 8 (by omega), hg.i 9 (by omega), w14, evs]
      exact hIn.rows
    have same : ∀ (q : Env) (e : Int) (rv : E) (t : Mem), Agree 19 ρ q → addR D S rows = ⟨e, D, S⟩ → iev q rv = e → postOf addS [.pointer (some ⟨a, 0, none⟩), .slice (slP x y) us.length c] [H, HD] [R, RA, RG] q (.blk 0 [.hptr (.var 5) (.lit 0), .hptr (.var 6) (.lit 0), .sl (.var 7) (.lit 0) (.var 8) (.var 9), .bool (.bvar 10)] 70 :: .hp 12 [] [.var 5] [.var 11] :: .hp 13 [] [.var 6] [.var 11] :: .hp 14 [] [.var 7] [] :: .hp 15 [] [.var 11] [] :: t) (.sv (.one (.int .i64 rv))) := by
      intro q e rv t hg he hrv
      obtain ⟨k1, k2, k3, k4⟩ := keepL q hg
      exact fin q 12 14 15 _ _ _ _ _ _ _ _ _ _ _ _ _ _ rv t hg (by rw [he]; exact k1) (by rw [he]; exact ⟨rfl, rfl⟩) (by rw [he]; exact k2) (by rw [he]; exact k3) (by rw [he]; exact k4) (by rw [he]; exact hrv)
    have hp0 : Value.pointer (slP (ρ.i 0) 0) = .pointer (some ⟨a, 0, none⟩) := by rw [v0, ptr0]
    have hv0 : Value.slice (slP (ρ.i 1) (ρ.i 2)) (ρ.i 3).toNat (ρ.i 4).toNat = .slice (slP x y) us.length c := by rw [v1, v2, v3, v4, Int.toNat_natCast, Int.toNat_natCast]
    have hc3 : (sHl a pa pb sl S.over).cell a 3 = some (.bool S.over) := by unfold sHl; rw [Hl.one_cell]; rfl
    have e0' : Hl.one (ρ.i 0).toNat (.cells #[Value.pointer (slP (ρ.i 5) 0), Value.pointer (slP (ρ.i 6) 0), Value.slice (slP (ρ.i 7) 0) (ρ.i 8).toNat (ρ.i 9).toNat, Value.bool (bev ρ (.bvar 10))] 70 (0, 0)) = sHl a pa pb sl S.over := e0
    rw [hp0, hv0, e0', w16, w17]
    refine ⟨⟨_, _, a, S.over, _, R, RA, rows, rfl, rfl, rfl, hc3, hB, hlen, hrow⟩, fun q1 g1 ⟨F1, hp1, hF1, hn1⟩ => ?_⟩
    obtain ⟨u1, e1, hv1, hE1, hO1⟩ := ready_post hc3 hB hp1
    simp only [Value.tuple.injEq, Array.mk.injEq, List.cons.injEq, Value.int.injEq, true_and, and_true] at hv1
    obtain ⟨eu, ee⟩ := hv1
    have hn19 : -1 ≤ q1.i 19 ∧ 0 ≤ q1.i 20 ∧ 0 ≤ q1.i 21 ∧ 0 ≤ q1.i 22 := hn1.1
    refine ⟨fun h23 => ?_, fun h23 => same q1 (q1.i 23) _ _ g1 ?_ (iev_var _ _)⟩
    rotate_left
    · rw [ee] at h23 ⊢
      unfold addR
      cases ho : S.over with
      | true => rw [if_pos rfl, hE1.1 ho]
      | false =>
        rw [if_neg (by simp)]
        by_cases hk : packOk rows
        · exact absurd (hE1.2.1 ho hk) h23
        · rw [if_pos hk, hE1.2.2 ho hk]
    have he0 : e1 = 0 := by rw [← ee]; exact h23
    have ho : ¬ S.over = true := fun h => by have := hE1.1 h; omega
    have hof : S.over = false := Bool.eq_false_iff.2 ho
    have hk : packOk rows := Classical.byContradiction fun h => by have := hE1.2.2 hof h; omega
    have hOw : OwB (q1.h 19) 5 (.slice (slP (q1.i 19) (q1.i 20)) (q1.i 21).toNat (q1.i 22).toNat) (packB rows) := by rw [hF1 trivial, eu]; exact hO1 he0
    have h21 : q1.i 21 = (packB rows).length := (hOw.rd.at hn19.1 hn19.2.1 hn19.2.2.1).1
    rw [g1.i 3 (by omega), v3]
    refine ⟨by omega, fun hz => same q1 0 _ _ g1 ?_ h23, fun hnz => ⟨by omega, ?_⟩⟩
    · have hz : (us.length : Int) = 0 := hz
      have hz2 : rows.length = 0 := by rw [← hul]; omega
      have : rows = [] := List.length_eq_zero_iff.1 hz2
      unfold addR
      rw [if_neg ho, if_neg (fun h => h hk), if_pos this]
    have hne : rows ≠ [] := fun h => by
      have hnz : ¬ (us.length : Int) = 0 := hnz
      rw [h] at hul
      have : us.length = 0 := hul
      omega
    have hpa' : ∀ q : Env, Agree 19 ρ q → Value.pointer (slP (q.i 5) 0) = pa := fun q hg => by rw [hg.i 5 (by omega), v5, ea]
    have kA : ∀ q : Env, Agree 19 ρ q → LogAt (q.h 12) pa dp S.LA S.bA := fun q hg => (keepL q hg).1
    rw [hpa' q1 g1]
    refine ⟨room_pre (kA q1 g1).rd hbA, fun q2 g2 ⟨F2, hp2, _⟩ => ?_⟩
    have G2 : Agree 19 ρ q2 := g1.trans (g2.mono (by omega))
    have h24 : q2.i 24 = S.LA.most - S.bA.length := room_of (room_post (kA q1 g1).rd hp2)
    have h21' : q2.i 21 = (packB rows).length := by rw [g2.i 21 (by omega), h21]
    refine ⟨fun hlt => same q2 4 _ _ G2 ?_ (iev_lit _ _), fun hge => ?_⟩
    · rw [h24, h21'] at hlt
      unfold addR
      rw [if_neg ho, if_neg (fun h => h hk), if_neg hne, if_pos hlt]
    rw [h24, h21'] at hge
    have hAdd : addR D S rows = addD D S rows (appendR D S.LA S.bA (packB rows) S.LA.note) := by
      unfold addR
      rw [if_neg ho, if_neg (fun h => h hk), if_neg hne, if_neg hge]
    generalize hr : appendR D S.LA S.bA (packB rows) S.LA.note = r at hAdd
    rw [hpa' q2 G2]
    refine ⟨lnote_pre (kA q2 G2).rd, fun q3 g3 ⟨F3, hp3, _⟩ => ?_⟩
    have G3 : Agree 19 ρ q3 := G2.trans (g3.mono (by omega))
    have hv3 := lnote_post (kA q2 G2).rd hp3
    have ec3 : (ckCVs 25 (List.replicate 16 (Ck.int .u8))).map (CV.ev q3) = bys S.LA.note := List.toArray_inj (Value.agg.inj hv3)
    have hn16 : S.LA.note.length = 16 := by obtain ⟨_, ⟨_, _, hLi⟩, _⟩ := hIn.la.rd; exact hLi.1.note
    have hRd3 : RdW (q3.h 19) (.slice (slP (q3.i 19) (q3.i 20)) (q3.i 21).toNat (q3.i 22).toNat) (packB rows) := by
      have G13 : Agree 24 q1 q3 := g2.trans (g3.mono (by omega))
      rw [G13.h 19 (by omega), G13.i 19 (by omega), G13.i 20 (by omega), G13.i 21 (by omega), G13.i 22 (by omega)]
      exact hOw.rd.w
    have kD3 : DiskAt (q3.h 15) dp D := (keepL q3 G3).2.2.2
    rw [hpa' q3 G3, ec3]
    refine ⟨⟨_, _, _, _, _, _, _, dp, _, _, _, rfl, rfl, rfl, kA q3 G3, kD3, hRd3, hbA, hn16, hser⟩, fun q4 g4 ⟨F4, hp4, _⟩ => ?_⟩
    obtain ⟨HL4, HD4, hK, hD4, hL4, hv4⟩ := append_post (kA q3 G3) kD3 hRd3 hp4
    rw [hr] at hD4 hL4 hv4
    have hK1 : q4.h 41 = HL4 ∧ q4.h 42 = HD4 := by
      have h1 : [q4.h 41, q4.h 42] = [HL4, HD4] := hK
      simpa using h1
    obtain ⟨hK1, hK2⟩ := hK1
    have h41 : q4.i 41 = r.e := by simpa using hv4
    have G4 : Agree 19 ρ q4 := G3.trans (g4.mono (by omega))
    rw [h41, G4.h 18 (by omega), w18]
    refine ⟨⟨_, _, RG, g, rfl, rfl, hG⟩, fun q5 g5 ⟨F5, ⟨s5, c5, R5, x1, x2, hE5⟩, _⟩ => ?_⟩
    simp only [List.cons.injEq, Value.string.injEq, Value.int.injEq, true_and, and_true] at x1 x2
    obtain ⟨x1, x3⟩ := x1
    subst x1 x2 x3
    have hE5 : ErrAt g (q5.v 44) r.e := hE5 g hG
    have G5 : Agree 19 ρ q5 := G4.trans (g5.mono (by omega))
    have cL : RG.cell (Int.toNat 0) (Int.toNat 0) = some (gv g gLost) := hG.cell gLost (Or.inl rfl)
    rw [G5.h 18 (by omega), w18, cL]
    refine ⟨rfl, ⟨_, _, RG, g, r.e, gLost, rfl, rfl, hG, hE5, Or.inl rfl, rfl⟩, fun q6 g6 ⟨F6, hp6, _⟩ => ?_⟩
    have r6 := is_res hG hE5 (Or.inl rfl) hp6
    rw [r6]
    have G6 : Agree 19 ρ q6 := G5.trans (g6.mono (by omega))
    have hE6 : ErrAt g (q6.v 44) r.e := by rw [g6.v 44 (by omega)]; exact hE5
    have num : ∀ (q7 : Env), Agree 46 q6 q7 → (∃ F, numberE.post [q6.v 44] [] [RG] (.int .i64 (q7.i 46)) [] F ∧ (cpRoots 0 [Cp.one (Ck.int .i64)] ≠ [] → q7.h 46 = F) ∧ cpNorms 46 [Cp.one (Ck.int .i64)] q7) → q7.i 46 = numC r.e ∧ Agree 19 ρ q7 ∧ Agree 43 q4 q7 := by
      intro q7 g7 ⟨F7, ⟨e7, R7, x1, x2, h7⟩, _⟩
      simp only [List.cons.injEq, and_true] at x1 x2
      subst x1 x2
      have := h7 g r.e hG hE6
      exact ⟨by simpa using this, G6.trans (g7.mono (by omega)), (g5.trans ((g6.trans (g7.mono (by omega))).mono (by omega))).mono (by omega)⟩
    rw [G6.h 18 (by omega), w18]
    refine ⟨fun hcl => ⟨⟨_, RG, g, r.e, rfl, rfl, hG, hE6⟩, fun q7 g7 hq7 => ?_⟩, fun hcl => ⟨⟨_, RG, g, r.e, rfl, rfl, hG, hE6⟩, fun q7 g7 hq7 => ?_⟩⟩
    · obtain ⟨hn46, G7, G47⟩ := num q7 g7 hq7
      have hnz46 : ¬ numC r.e = 0 := by
        unfold numC
        rw [if_neg hcl.1, if_neg (by rw [hcl.2]; decide), if_neg (by rw [hcl.2]; decide)]
        decide
      refine ⟨fun _ => ?_, fun h => absurd (hn46.symm.trans h) hnz46⟩
      refine fin q7 41 14 42 _ _ _ _ _ _ _ _ _ _ _ _ (.sl (.var 7) (.lit 0) (.var 8) (.var 9)) _ _ _ G7 ?_ ?_ ?_ ?_ ?_ ?_
      · rw [hAdd, G47.h 41 (by omega), hK1]; exact hL4
      · rw [hAdd]; exact ⟨rfl, rfl⟩
      · rw [hAdd]
        unfold addD
        rw [if_neg hnz46]; exact (keepL q7 G7).2.1
      · rw [hAdd]
        show true = (if _ then true else S.over)
        rw [if_pos hcl]
      · rw [hAdd, G47.h 42 (by omega), hK2]; exact hD4
      · rw [hAdd, iev_var, hn46]; rfl
    · obtain ⟨hn46, G7, G47⟩ := num q7 g7 hq7
      refine ⟨fun hnz46 => ?_, fun h46 => ?_⟩
      · refine fin q7 41 14 42 _ _ _ _ _ _ _ _ _ _ _ _ (.sl (.var 7) (.lit 0) (.var 8) (.var 9)) _ _ _ G7 ?_ ?_ ?_ ?_ ?_ ?_
        · rw [hAdd, G47.h 41 (by omega), hK1]; exact hL4
        · rw [hAdd]; exact ⟨rfl, rfl⟩
        · rw [hAdd]
          unfold addD
          rw [if_neg (fun h => hnz46 (hn46.trans h))]; exact (keepL q7 G7).2.1
        · rw [hAdd, (keepL q7 G7).2.2.1]
          show S.over = (if _ then true else S.over)
          rw [if_neg hcl]
        · rw [hAdd, G47.h 42 (by omega), hK2]; exact hD4
        · rw [hAdd, iev_var, hn46]; rfl
      · clear num
        refine ⟨⟨0, rfl, Nat.zero_le _, by show -1 ≤ q7.i 7; rw [G7.i 7 (by omega), v7]; exact hrx, by show 0 ≤ q7.i 8; rw [G7.i 8 (by omega), v8]; omega, by show 0 ≤ q7.i 9; rw [G7.i 9 (by omega), v9]; omega, ?_, ?_⟩, fun q8 g8 ⟨k, ek, hkl, x61, x62, x63, b65, hRk⟩ => ?_⟩
        · show bev q7 (.bvar 10) = false
          rw [bev_bvar, G7.b 10 (by omega), b10, hof]
        · show RowsR (q7.h 14) (.slice (slP (q7.i 7) 0) (q7.i 8).toNat (q7.i 9).toNat) _
          rw [G7.h 14 (by omega), G7.i 7 (by omega), G7.i 8 (by omega), G7.i 9 (by omega), w14, evs, List.take_zero, List.append_nil]
          exact hIn.rows
        have G8 : Agree 19 ρ q8 := G7.trans (g8.mono (by omega))
        have h62 : q8.i 62 = S.recs.length + k := by
          have := (hRk.at x61 x62).1
          rw [List.length_append, List.length_take] at this
          omega
        rw [G8.i 1 (by omega), G8.i 2 (by omega), G8.i 3 (by omega), G8.h 16 (by omega), G8.h 17 (by omega), v1, v2, v3, w16, w17, ek]
        refine ⟨fun hlt => ?_, fun hge => ?_⟩
        · have hkr : k < rows.length := by omega
          have hrk : rows[k]? = some rows[k] := List.getElem?_eq_getElem hkr
          have hu : us[k]? = some us[k] := List.getElem?_eq_getElem (by omega)
          obtain ⟨hx0, hc⟩ := hcell k _ hu
          have hRr := hrd k _ _ hu hrk
          have hsl : ∃ a l c, us[k] = Value.slice a l c := (RdW.parts hRr).1
          have hck : R.cell x.toNat (y + (k : Int)).toNat = some us[k] := by rw [show (y + (k : Int)).toNat = y.toNat + k by omega]; exact hc
          rw [hck, sl_parts hsl]
          refine ⟨hx0, hy, by omega, by obtain ⟨_, _, _, e⟩ := hsl; rw [e]; rfl, ⟨_, _, RA, rfl, rfl, hRr, hrow _ (List.getElem_mem _)⟩, fun q9 g9 ⟨F9, ⟨u9, bs9, R9, x1, x2, hR9, hO9⟩, hF9, hn9⟩ q10 g10 _ q11 g11 ⟨e11, hd11⟩ => ?_⟩
          simp only [List.cons.injEq, and_true] at x1 x2
          subst x1 x2
          obtain rfl := hRr.uniq hR9
          rw [← hF9 trivial] at hO9
          have hn9 : -1 ≤ q9.i 66 ∧ 0 ≤ q9.i 67 ∧ 0 ≤ q9.i 68 ∧ 0 ≤ q9.i 69 := hn9.1
          have G10 : Agree 66 q8 q10 := g9.trans (g10.mono (by omega))
          have G11 : Agree 66 q8 q11 := G10.trans (g11.mono (by omega))
          have G9 : Agree 70 q9 q11 := g10.trans (g11.mono (by omega))
          have hu9 : RowR (q10.h 66) none (.slice (slP (q11.i 66) (q11.i 67)) (q11.i 68).toNat (q11.i 69).toNat) rows[k] := by
            rw [g10.h 66 (by omega), G9.i 66 (by omega), G9.i 67 (by omega), G9.i 68 (by omega), G9.i 69 (by omega)]
            exact RowR.of hO9.rd.w hn9.1 hn9.2.1
          rw [e11, G10.h 64 (by omega), G11.i 61 (by omega), G11.i 62 (by omega), G11.i 63 (by omega)]
          rw [G10.h 64 (by omega)] at hd11
          have hpre : ∃ xs, OwnsH ((q8.h 64).un (q10.h 66)) 30 1 (.slice (slP (q8.i 61) 0) (q8.i 62).toNat (q8.i 63).toNat) (q8.i 62).toNat xs := by
            obtain ⟨us', ho', _⟩ := hRk
            rw [show (q8.i 62).toNat = (S.recs ++ rows.take k).length by rw [List.length_append, List.length_take]; omega] at ho' ⊢
            exact ⟨us', ho'.mono (Hl.un_left _ _)⟩
          refine ⟨⟨hpre, x62, by unfold maxLen; omega, by omega⟩, fun q12 g12 ⟨a1, a2, happ, hkp, _, hnw⟩ => ?_⟩
          have G12 : Agree 66 q8 q12 := G11.trans (g12.mono (by omega))
          have hrows := rowsR_app hRk x61 x62 hd11 hu9 a1 happ hkp hnw
          have e62 : q12.i 62 + 1 = q8.i 62 + 1 := by rw [G12.i 62 (by omega)]
          have e60 : q12.i 60 = k := by rw [G12.i 60 (by omega), ek]
          have w60 : IntKind.i64.wrap (q12.i 60 + 1) = (k : Int) + 1 := by rw [e60]; exact wrap_i64 (by omega) (by omega)
          refine ⟨⟨k + 1, ?_, by omega, a1, ?_, a2, ?_, ?_⟩, ?_⟩
          · show IntKind.i64.wrap (q12.i 60 + 1) = _
            rw [w60]; rfl
          · show 0 ≤ q12.i 62 + 1
            omega
          · show q12.b 65 = false
            rw [G12.b 65 (by omega)]; exact b65
          · show RowsR (q12.h 72) (.slice (slP (q12.i 72) 0) (q12.i 62 + 1).toNat (q12.i 73).toNat) _
            rw [e62, List.take_add_one, hrk, Option.toList_some, ← List.append_assoc]; exact hrows
          · show ((rows.length : Int) - IntKind.i64.wrap (q12.i 60 + 1)).toNat < _
            rw [w60]; omega
        · have hke : k = rows.length := by omega
          subst hke
          rw [List.take_length] at hRk
          refine fin q8 41 64 42 _ _ _ _ _ _ _ _ _ _ _ _ (.sl (.var 61) (.lit 0) (.var 62) (.var 63)) _ _ _ G8 ?_ ?_ ?_ ?_ ?_ ?_
          · rw [hAdd, g8.h 41 (by omega), G47.h 41 (by omega), hK1]; exact hL4
          · rw [hAdd]; exact ⟨rfl, rfl⟩
          · rw [hAdd]
            unfold addD
            rw [if_pos (hn46.symm.trans h46)]; exact hRk
          · rw [bev_bvar, b65, hAdd]
            show false = (if _ then true else S.over)
            rw [if_neg hcl]; exact hof.symm
          · rw [hAdd, g8.h 42 (by omega), G47.h 42 (by omega), hK2]; exact hD4
          · rw [hAdd, iev_lit]
            exact (hn46.symm.trans h46).symm
end Go.Proofs.YtomdimlnggpgbaaDoor
