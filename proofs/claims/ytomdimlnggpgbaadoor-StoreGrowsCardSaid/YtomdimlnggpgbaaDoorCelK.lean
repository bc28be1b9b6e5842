/- Layer 8: a log becomes another, as a contract. No condition. -/
import Derived.Test.YtomdimlnggpgbaaDoorCelJ
set_option linter.unusedSimpArgs false
set_option linter.unusedVariables false
set_option linter.constructorNameAsVariable false
namespace Go.Proofs.YtomdimlnggpgbaaDoor.D
open Go Go.Sx

theorem u8_ev {q : Env} : ∀ (m n : Nat) (l : List Int), l.length = m → (∀ k, k < m → q.i (n + k) = l.getD k 0) → (ckCVs n (List.replicate m (Ck.int .u8))).map (CV.ev q) = bys l
  | 0, n, [], _, _ => rfl
  | m + 1, n, z :: l, hl, h => by
    rw [List.replicate_succ]
    show CV.ev q (.int .u8 (.var n)) :: (ckCVs (n + 1) (List.replicate m (Ck.int .u8))).map (CV.ev q) = Value.int .u8 z :: bys l
    rw [u8_ev m (n + 1) l (by simpa using hl) fun k hk => by rw [show n + 1 + k = n + (k + 1) by omega, h (k + 1) (by omega)]; rfl]
    congr 1
    show Value.int .u8 (q.i n) = _
    have := h 0 (by omega)
    rw [Nat.add_zero] at this
    rw [this]; rfl
  | 0, _, _ :: _, h, _ => by simp at h
  | _ + 1, _, [], h, _ => by simp at h
def newH (L : LM) (all nt : List Int) : List Int := (L.serial + 1) :: (all.length : Int) :: nt
def becomeR (D : DM) (L : LM) (all nt : List Int) (n : Nat) : Int × DM :=
  if (fillR D L.frm all n).1 ≠ 0 then (5, (fillR D L.frm all n).2)
  else if (turnR (fillR D L.frm all n).2 L.frm (newH L all nt)).1 ≠ 0 then (5, (turnR (fillR D L.frm all n).2 L.frm (newH L all nt)).2)
  else (0, (turnR (fillR D L.frm all n).2 L.frm (newH L all nt)).2)
def grownL (L : LM) (all nt : List Int) : LM := ⟨L.frm, L.most, L.serial + 1, all.length, nt, L.over⟩
def overL (L : LM) : LM := { L with over := true }
def becomeS : Sx.Spec where
  fn := 41
  own := [.arg 0, .arg 1, .link 0 0]
  rd := []
  res := [.one (.int .i64)]
  pre := fun xs Hs Rs => ∃ p a u all nt H HA HD dp sl L n D, xs = [p, u, .agg (bys nt).toArray, .bool true] ∧ Hs = [H, HA, HD] ∧ p = .pointer (some ⟨a, 0, none⟩) ∧ LogIn H a dp sl L ∧ slOf sl n ∧ n ≤ 1048576 ∧ OwB HA 5 u all ∧ all.length ≤ 1048576 ∧ nt.length = 16 ∧ DiskAt HD dp D ∧ 0 ≤ L.serial ∧ L.serial < 4611686018427387904
  post := fun xs Hs Rs v Hs' F => ∃ p a u all nt H HA HD dp sl L n D H' HA' HD', xs = [p, u, .agg (bys nt).toArray, .bool true] ∧ Hs = [H, HA, HD] ∧ p = .pointer (some ⟨a, 0, none⟩) ∧ LogIn H a dp sl L ∧ slOf sl n ∧ OwB HA 5 u all ∧ DiskAt HD dp D ∧ Hs' = [H', HA', HD'] ∧ DiskAt HD' dp (becomeR D L all nt n).2 ∧ v = .int .i64 (becomeR D L all nt n).1 ∧
    ((becomeR D L all nt n).1 = 0 → LogAt H' p dp (grownL L all nt) all) ∧ ((becomeR D L all nt n).1 ≠ 0 → H' = Hl.one a (lObj dp sl (overL L)))
def becomeNd : Nd := .ext (.alloc 61) (.and (.e (.le (.lit 0) (.var 3))) (.ext (.alloc 62) (.and (.imp (.bvar 60) (.and (.e (.le (.lit 0) (.var 45))) (.and (.pre (.call 0 63 [.sv (.one (.hptr (.var 0) (.lit 0))), .sv (.one (.sl (.var 1) (.var 2) (.var 3) (.var 4))), .sv (.one (.int .i64 (.var 45)))] [.hp 49 [] [.var 21] []] [.blk 0 (ckCVs 21 ([Ck.ptr, Ck.int .i64, Ck.int .i64, Ck.int .u64, Ck.int .u64] ++ List.replicate 16 (Ck.int .u8) ++ [Ck.sl, Ck.bool])) 81, .hp 48 [] [.var 1] []])) (.ext (.call 0 63 [.sv (.one (.hptr (.var 0) (.lit 0))), .sv (.one (.sl (.var 1) (.var 2) (.var 3) (.var 4))), .sv (.one (.int .i64 (.var 45)))] [.hp 49 [] [.var 21] []] [.blk 0 (ckCVs 21 ([Ck.ptr, Ck.int .i64, Ck.int .i64, Ck.int .u64, Ck.int .u64] ++ List.replicate 16 (Ck.int .u8) ++ [Ck.sl, Ck.bool])) 81, .hp 48 [] [.var 1] []]) (.and (.imp (.eq (.var 63) (.lit 0)) (.and (.pre (.call 1 65 [.sv (.one (.hptr (.var 0) (.lit 0))), .sv (.agg ([.int .u64 (.wrap .u64 (.add (.var 25) (.lit 1))), .int .u64 (.wrap .u64 (.var 3))] ++ ckCVs 5 (List.replicate 16 (Ck.int .u8))))] [.hp 63 [49] [.var 21] []] [.blk 0 (ckCVs 21 ([Ck.ptr, Ck.int .i64, Ck.int .i64, Ck.int .u64, Ck.int .u64] ++ List.replicate 16 (Ck.int .u8) ++ [Ck.sl, Ck.bool])) 81])) (.ext (.call 1 65 [.sv (.one (.hptr (.var 0) (.lit 0))), .sv (.agg ([.int .u64 (.wrap .u64 (.add (.var 25) (.lit 1))), .int .u64 (.wrap .u64 (.var 3))] ++ ckCVs 5 (List.replicate 16 (Ck.int .u8))))] [.hp 63 [49] [.var 21] []] [.blk 0 (ckCVs 21 ([Ck.ptr, Ck.int .i64, Ck.int .i64, Ck.int .u64, Ck.int .u64] ++ List.replicate 16 (Ck.int .u8) ++ [Ck.sl, Ck.bool])) 81]) (.and (.imp (.not (.eq (.var 65) (.lit 0))) (.post [.blk 0 (ckCVs 21 ([Ck.ptr, Ck.int .i64, Ck.int .i64, Ck.int .u64, Ck.int .u64] ++ List.replicate 16 (Ck.int .u8) ++ [Ck.sl]) ++ [.bool .tt]) 81, .hp 48 [] [.var 1] [], .hp 65 [63, 49] [.var 21] [], .dead, .dead] (.sv (.one (.int .i64 (.lit 5)))))) (.imp (.eq (.var 65) (.lit 0)) (.post [.blk 0 ([.hptr (.var 21) (.var 22), .int .i64 (.var 23), .int .i64 (.var 24), .int .u64 (.wrap .u64 (.add (.var 25) (.lit 1))), .int .u64 (.wrap .u64 (.var 3))] ++ ckCVs 5 (List.replicate 16 (Ck.int .u8)) ++ [.sl (.var 1) (.var 2) (.var 3) (.var 4), .bool (.bvar 47)]) 81, .hp 48 [] [.var 1] [], .hp 65 [63, 49] [.var 21] [], .dead, .dead] (.sv (.one (.int .i64 (.lit 0)))))))))) (.imp (.not (.eq (.var 63) (.lit 0))) (.post [.blk 0 (ckCVs 21 ([Ck.ptr, Ck.int .i64, Ck.int .i64, Ck.int .u64, Ck.int .u64] ++ List.replicate 16 (Ck.int .u8) ++ [Ck.sl]) ++ [.bool .tt]) 81, .hp 48 [] [.var 1] [], .hp 63 [49] [.var 21] [], .dead, .dead] (.sv (.one (.int .i64 (.lit 5))))))))))) (.imp (.not (.bvar 60)) (.and (.pre (.call 1 63 [.sv (.one (.hptr (.var 0) (.lit 0))), .sv (.agg ([.int .u64 (.wrap .u64 (.add (.var 25) (.lit 1))), .int .u64 (.wrap .u64 (.var 3))] ++ ckCVs 5 (List.replicate 16 (Ck.int .u8))))] [.hp 49 [] [.var 21] []] [.blk 0 (ckCVs 21 ([Ck.ptr, Ck.int .i64, Ck.int .i64, Ck.int .u64, Ck.int .u64] ++ List.replicate 16 (Ck.int .u8) ++ [Ck.sl, Ck.bool])) 81])) (.ext (.call 1 63 [.sv (.one (.hptr (.var 0) (.lit 0))), .sv (.agg ([.int .u64 (.wrap .u64 (.add (.var 25) (.lit 1))), .int .u64 (.wrap .u64 (.var 3))] ++ ckCVs 5 (List.replicate 16 (Ck.int .u8))))] [.hp 49 [] [.var 21] []] [.blk 0 (ckCVs 21 ([Ck.ptr, Ck.int .i64, Ck.int .i64, Ck.int .u64, Ck.int .u64] ++ List.replicate 16 (Ck.int .u8) ++ [Ck.sl, Ck.bool])) 81]) (.and (.imp (.not (.eq (.var 63) (.lit 0))) (.post [.blk 0 (ckCVs 21 ([Ck.ptr, Ck.int .i64, Ck.int .i64, Ck.int .u64, Ck.int .u64] ++ List.replicate 16 (Ck.int .u8) ++ [Ck.sl]) ++ [.bool .tt]) 81, .hp 48 [] [.var 1] [], .hp 63 [49] [.var 21] [], .dead, .dead] (.sv (.one (.int .i64 (.lit 5)))))) (.imp (.eq (.var 63) (.lit 0)) (.post [.blk 0 ([.hptr (.var 21) (.var 22), .int .i64 (.var 23), .int .i64 (.var 24), .int .u64 (.wrap .u64 (.add (.var 25) (.lit 1))), .int .u64 (.wrap .u64 (.var 3))] ++ ckCVs 5 (List.replicate 16 (Ck.int .u8)) ++ [.sl (.var 1) (.var 2) (.var 3) (.var 4), .bool (.bvar 47)]) 81, .hp 48 [] [.var 1] [], .hp 63 [49] [.var 21] [], .dead, .dead] (.sv (.one (.int .i64 (.lit 0)))))))))))))
def becomeΓ : List Sx.Spec := [fillS, turnS]
theorem becomeΓ_ok : ∀ t ∈ becomeΓ, t.OK Tryd.prog := fun t ht => by
  simp only [becomeΓ, List.mem_cons, List.mem_nil_iff, or_false] at ht
  rcases ht with rfl | rfl
  · exact fillS_ok
  · exact turnS_ok
def becomeW : Walk Tryd.prog becomeΓ becomeS.fn where
  Λ := noLoops
  args := [TP (.var 0) (.lit 0), .sv (.one (.sl (.var 1) (.var 2) (.var 3) (.var 4))), .sv (.agg (ckCVs 5 (u8s 16))), .sv (.one (.bool (.bvar 60)))]
  mem := [.blk 0 (ckCVs 21 logK ++ [.sl (.var 43) (.var 44) (.var 45) (.var 46), .bool (.bvar 47)]) 81, .hp 48 [] [.var 1] [], .hp 49 [] [.var 21] []]
  nv := 61
  nd := becomeNd
  ok := by kernel_rfl
theorem bg0 : becomeΓ[0]? = some fillS := rfl
theorem bg1 : becomeΓ[1]? = some turnS := rfl
theorem br0 : fillS.res = [.one (.int .i64)] := rfl
theorem br1 : turnS.res = [.one (.int .i64)] := rfl
def becEnv (a : Nat) (x : Int) (n c : Nat) (nt : List Int) (da : Nat) (L : LM) (sx sy : Int) (sn sc : Nat) (HA HD : Hl) : Env :=
  ⟨fun k => if k < 5 then [(a : Int), x, 0, n, c].getD k 0 else if k < 21 then nt.getD (k - 5) 0 else if k < 43 then (lInts da L).getD (k - 21) 0 else [sx, sy, (sn : Int), (sc : Int)].getD (k - 43) 0, fun k => if k = 60 then true else L.over, fun _ => .empty, fun _ => .tuple #[], fun k => if k = 48 then HA else HD⟩
theorem becomeS_ok : becomeS.OK Tryd.prog := by
  refine spec_of_fn2 (Γ := becomeΓ) becomeΓ_ok ?_
  rintro xs Hs Rs hl1 hl2 hdis ⟨p, a, u, all, nt, H, HA, HD, dp, sl, L, n, D, rfl, rfl, rfl, hL, hsl, hn, hO, hall, hnt, hD, hs0, hs1⟩
  have e1 : Rs = [] := List.length_eq_zero_iff.1 hl2
  subst e1
  obtain ⟨da, s, m, es, clock, hdp, hDi⟩ := id hD
  obtain ⟨x, c, hx, hu, hc, hcell⟩ := OwB.rep hO
  obtain ⟨sx, sy, sc, hsl', hsx, hsy⟩ := id hsl
  have eB : ∀ (q : Env), Agree 61 (becEnv a x all.length c nt da L sx sy n sc HA HD) q → (Res.blk 0 (ckCVs 21 logK ++ [.sl (.var 43) (.var 44) (.var 45) (.var 46), .bool (.bvar 47)]) 81).hl q = Hl.one a (lObj dp sl L) := by
    intro q g
    have h1 : ∀ k, k < 22 → q.i (21 + k) = (lInts da L).getD k 0 := fun k hk => by
      rw [g.i _ (by omega)]
      show (if 21 + k < 5 then _ else if 21 + k < 21 then _ else if 21 + k < 43 then (lInts da L).getD (21 + k - 21) 0 else _) = _
      rw [if_neg (by omega), if_neg (by omega), if_pos (by omega), show 21 + k - 21 = k by omega]
    show Hl.one (q.i 0).toNat (.cells ((ckCVs 21 logK ++ [CV.sl (.var 43) (.var 44) (.var 45) (.var 46), .bool (.bvar 47)]).map (CV.ev q)).toArray _ (0, 0)) = _
    rw [List.map_append, logK_ev hL.1 h1, g.i 0 (by omega)]
    have e1 : CV.ev q (.sl (.var 43) (.var 44) (.var 45) (.var 46)) = sl := by
      simp only [CV.ev, iev_var, g.i 43 (by omega), g.i 44 (by omega), g.i 45 (by omega), g.i 46 (by omega)]
      rw [hsl']
      show Value.slice (slP sx sy) ((n : Int)).toNat ((sc : Int)).toNat = _
      rw [Int.toNat_natCast, Int.toNat_natCast]
    have e2 : CV.ev q (.bool (.bvar 47)) = .bool L.over := by
      show Value.bool (q.b 47) = _
      rw [g.b 47 (by omega)]; rfl
    rw [List.map_cons, List.map_cons, List.map_nil, e1, e2, List.append_assoc, ← hdp]
    rfl
  refine ⟨becomeW, becEnv a x all.length c nt da L sx sy n sc HA HD, fun _ _ => True, fun _ _ => 0, ?_, ⟨?_, ?_, ?_, ?_⟩, (fun _ h => nomatch h), ?_⟩
  · show [Value.pointer (slP (a : Int) 0), Value.slice (slP x 0) ((all.length : Int)).toNat ((c : Int)).toNat, Value.agg ((ckCVs 5 (u8s 16)).map (CV.ev _)).toArray, Value.bool true] = _
    unfold u8s
    rw [dArg, Int.toNat_natCast, Int.toNat_natCast, ← hu, u8_ev 16 5 nt hnt fun k hk => ?_]
    show (if 5 + k < 5 then _ else if 5 + k < 21 then nt.getD (5 + k - 5) 0 else _) = _
    rw [if_neg (by omega), if_pos (by omega), show 5 + k - 5 = k by omega]
  · intro r hr ho
    simp only [becomeW, List.mem_cons, List.mem_nil_iff, or_false] at hr
    rcases hr with rfl | rfl | rfl
    · refine ⟨H, by simp, ?_⟩
      rw [eB _ (Agree.refl _ _)]
      intro b o hb
      obtain ⟨rfl, rfl⟩ := Hl.one_eq hb
      exact hL.2
    · exact ⟨HA, by simp, Hl.le_refl _⟩
    · exact ⟨HD, by simp, Hl.le_refl _⟩
  · intro r hr ho
    simp only [becomeW, List.mem_cons, List.mem_nil_iff, or_false] at hr
    rcases hr with rfl | rfl | rfl <;> cases ho
  · have d1 : H.dis HA := hdis 0 1 _ _ (by decide) rfl rfl
    have d2 : H.dis HD := hdis 0 2 _ _ (by decide) rfl rfl
    have d3 : HA.dis HD := hdis 1 2 _ _ (by decide) rfl rfl
    have hm : H.mem a := by unfold Hl.mem; rw [hL.2]; rfl
    refine List.Pairwise.cons (fun r hr _ _ => ?_) (List.Pairwise.cons (fun r hr _ _ => ?_) (List.Pairwise.cons (fun r hr => by cases hr) List.Pairwise.nil))
    · simp only [List.mem_cons, List.mem_nil_iff, or_false] at hr
      rw [eB _ (Agree.refl _ _)]
      rcases hr with rfl | rfl
      · exact Hl.one_dis.2 fun h => d1 a ⟨hm, h⟩
      · exact Hl.one_dis.2 fun h => d2 a ⟨hm, h⟩
    · rw [List.mem_singleton] at hr
      subst hr
      exact d3
  · intro r hr
    simp only [becomeW, List.mem_cons, List.mem_nil_iff, or_false] at hr
    rcases hr with rfl | rfl | rfl
    · show (0 : Int) ≤ (a : Int); omega
    · trivial
    · trivial
  · show Nd.holds _ _ _ becomeNd
    generalize hρ : becEnv a x all.length c nt da L sx sy n sc HA HD = ρ at eB ⊢
    have v0 : ρ.i 0 = a := by rw [← hρ]; rfl
    have v1 : ρ.i 1 = x := by rw [← hρ]; rfl
    have v2 : ρ.i 2 = 0 := by rw [← hρ]; rfl
    have v3 : ρ.i 3 = all.length := by rw [← hρ]; rfl
    have v4 : ρ.i 4 = c := by rw [← hρ]; rfl
    have v45 : ρ.i 45 = n := by rw [← hρ]; rfl
    have b60 : ρ.b 60 = true := by rw [← hρ]; rfl
    have w48 : ρ.h 48 = HA := by rw [← hρ]; rfl
    have w49 : ρ.h 49 = HD := by rw [← hρ]; rfl
    have rk : ∀ k, k < 22 → ρ.i (21 + k) = (lInts da L).getD k 0 := fun k hk => by
      rw [← hρ]
      show (if 21 + k < 5 then _ else if 21 + k < 21 then _ else if 21 + k < 43 then (lInts da L).getD (21 + k - 21) 0 else _) = _
      rw [if_neg (by omega), if_neg (by omega), if_pos (by omega), show 21 + k - 21 = k by omega]
    have rn : ∀ k, k < 16 → ρ.i (5 + k) = nt.getD k 0 := fun k hk => by
      rw [← hρ]
      show (if 5 + k < 5 then _ else if 5 + k < 21 then nt.getD (5 + k - 5) 0 else _) = _
      rw [if_neg (by omega), if_pos (by omega), show 5 + k - 5 = k by omega]
    unfold becomeNd
    simp only [Nd.holds, X.pre, X.rel, X.n, Src.ok, Src.len, Src.vals, true_and, and_true, if_true, Nat.mul_one, Nat.add_zero, Nat.reduceAdd, List.length_cons, List.length_nil, bT_tt, bT_ff, bT_bvar, bT_not, bT_and, bT_or, bT_ite, bT_lt, bT_le, bT_eq, bT_beq, bT_seq, bT_hB, bT_his, bT_hby, bT_hism, bT_hks, iev_lit, iev_var, iev_add, iev_sub, iev_mul, iev_wrap, iev_ite, iev_hI, iev_hP, iev_hmlen, sev_ite, sev_slit, sev_sof, sev_svar, TV.ev, SV.ev, CV.ev, List.map_cons, List.map_nil, Res.hl, cpTV, Cp.sv, Ck.cv, cpSVs, Cp.len, Ck.len, newHs_zero, newHs_one, roots_ne, bg0, bg1, br0, br1]
    intro q1 g1 _
    rw [g1.i 3 (by omega), v3]
    refine ⟨by omega, fun q2 g2 _ => ?_⟩
    have G2 : Agree 61 ρ q2 := g1.trans (g2.mono (by omega))
    rw [G2.b 60 (by omega), b60]
    refine ⟨fun _ => ?_, fun h => absurd rfl h⟩
    rw [G2.i 0 (by omega), v0, G2.i 1 (by omega), v1, G2.i 2 (by omega), v2, G2.i 3 (by omega), v3, G2.i 4 (by omega), v4, G2.i 45 (by omega), v45, G2.h 48 (by omega), w48, G2.h 49 (by omega), w49, dArg, Int.toNat_natCast, Int.toNat_natCast, ← hu]
    have ls : ∀ q : Env, Agree 61 ρ q → CV.ev q (.sl (.var 43) (.var 44) (.var 45) (.var 46)) = sl := by
      intro q g
      simp only [CV.ev, iev_var, g.i 43 (by omega), g.i 44 (by omega), g.i 45 (by omega), g.i 46 (by omega)]
      rw [← hρ, hsl']
      show Value.slice (slP sx sy) ((n : Int)).toNat ((sc : Int)).toNat = _
      rw [Int.toNat_natCast, Int.toNat_natCast]
    have lk : ∀ q : Env, Agree 61 ρ q → ∀ k, k < 22 → q.i (21 + k) = (lInts da L).getD k 0 := fun q g k hk => by rw [g.i _ (by omega)]; exact rk k hk
    have eB2 : ∀ q : Env, Agree 61 ρ q → Hl.one a (Obj.cells (List.map (CV.ev q) (ckCVs 21 ([Ck.ptr, Ck.int IntKind.i64, Ck.int IntKind.i64, Ck.int IntKind.u64, Ck.int IntKind.u64] ++ List.replicate 16 (Ck.int IntKind.u8) ++ [Ck.sl, Ck.bool]))).toArray 81 (0, 0)) = Hl.one a (lObj dp sl L) := by
      intro q g
      have h : Hl.one (q.i 0).toNat (Obj.cells (List.map (CV.ev q) (ckCVs 21 ([Ck.ptr, Ck.int IntKind.i64, Ck.int IntKind.i64, Ck.int IntKind.u64, Ck.int IntKind.u64] ++ List.replicate 16 (Ck.int IntKind.u8) ++ [Ck.sl, Ck.bool]))).toArray 81 (0, 0)) = Hl.one a (lObj dp sl L) := eB q g
      rw [g.i 0 (by omega), v0, Int.toNat_natCast] at h
      exact h
    have eT : ∀ q : Env, Agree 61 ρ q → (Res.blk 0 (ckCVs 21 ([Ck.ptr, Ck.int IntKind.i64, Ck.int IntKind.i64, Ck.int IntKind.u64, Ck.int IntKind.u64] ++ List.replicate 16 (Ck.int IntKind.u8) ++ [Ck.sl]) ++ [CV.bool E.tt]) 81).hl q = Hl.one a (lObj dp sl (overL L)) := by
      intro q g
      have h : (Res.blk 0 (ckCVs 21 ([Ck.ptr, Ck.int IntKind.i64, Ck.int IntKind.i64, Ck.int IntKind.u64, Ck.int IntKind.u64] ++ List.replicate 16 (Ck.int IntKind.u8) ++ [Ck.sl]) ++ [CV.bool E.tt]) 81).hl q = Hl.one (q.i 0).toNat (.cells ((ckCVs 21 logK ++ [CV.sl (.var 43) (.var 44) (.var 45) (.var 46), .bool .tt]).map (CV.ev q)).toArray 81 (0, 0)) := rfl
      rw [h, List.map_append, logK_ev hL.1 (lk q g), g.i 0 (by omega), v0, List.map_cons, List.map_cons, List.map_nil, ls q g, List.append_assoc, ← hdp, Int.toNat_natCast]
      rfl
    have eN : ∀ q : Env, Agree 61 ρ q → (ckCVs 5 (List.replicate 16 (Ck.int IntKind.u8))).map (CV.ev q) = bys nt := fun q g => u8_ev 16 5 nt hnt fun k hk => by rw [g.i _ (by omega)]; exact rn k hk
    have i23 : ∀ q : Env, Agree 61 ρ q → q.i 21 = da ∧ q.i 22 = 0 ∧ q.i 23 = L.frm ∧ q.i 24 = L.most ∧ q.i 25 = L.serial := fun q g => ⟨lk q g 0 (by omega), lk q g 1 (by omega), lk q g 2 (by omega), lk q g 3 (by omega), lk q g 4 (by omega)⟩
    have wS : IntKind.u64.wrap (L.serial + 1) = L.serial + 1 := wrap_u64 (by omega) (by omega)
    have wL : IntKind.u64.wrap (all.length : Int) = all.length := wrap_u64 (by omega) (by omega)
    have eH : ∀ q : Env, Agree 61 ρ q → List.map (CV.ev q) ([CV.int IntKind.u64 (E.wrap IntKind.u64 ((E.var 25).add (E.lit 1))), CV.int IntKind.u64 (E.wrap IntKind.u64 (E.var 3))] ++ ckCVs 5 (List.replicate 16 (Ck.int IntKind.u8))) = hdV (newH L all nt) := by
      intro q g
      rw [List.map_append, eN q g]
      show [Value.int .u64 (IntKind.u64.wrap (q.i 25 + 1)), Value.int .u64 (IntKind.u64.wrap (q.i 3))] ++ bys nt = _
      rw [(i23 q g).2.2.2.2, g.i 3 (by omega), v3, wS, wL]; rfl
    have eG : ∀ q : Env, Agree 61 ρ q → (Res.blk 0 ([CV.hptr (E.var 21) (E.var 22), CV.int IntKind.i64 (E.var 23), CV.int IntKind.i64 (E.var 24), CV.int IntKind.u64 (E.wrap IntKind.u64 ((E.var 25).add (E.lit 1))), CV.int IntKind.u64 (E.wrap IntKind.u64 (E.var 3))] ++ ckCVs 5 (List.replicate 16 (Ck.int IntKind.u8)) ++ [CV.sl (E.var 1) (E.var 2) (E.var 3) (E.var 4), CV.bool (E.bvar 47)]) 81).hl q = Hl.one a (lObj dp u (grownL L all nt)) := by
      intro q g
      show Hl.one (q.i 0).toNat (.cells (List.map (CV.ev q) _).toArray _ (0, 0)) = _
      rw [List.map_append, List.map_append, eN q g]
      obtain ⟨j0, j1, j2, j3, j4⟩ := i23 q g
      have eb : q.b 47 = L.over := by rw [g.b 47 (by omega), ← hρ]; rfl
      show Hl.one (q.i 0).toNat (.cells ([Value.pointer (slP (q.i 21) (q.i 22)), .int .i64 (q.i 23), .int .i64 (q.i 24), .int .u64 (IntKind.u64.wrap (q.i 25 + 1)), .int .u64 (IntKind.u64.wrap (q.i 3))] ++ bys nt ++ [Value.slice (slP (q.i 1) (q.i 2)) (q.i 3).toNat (q.i 4).toNat, .bool (q.b 47)]).toArray _ (0, 0)) = _
      rw [j0, j1, j2, j3, j4, eb, g.i 0 (by omega), v0, g.i 1 (by omega), v1, g.i 2 (by omega), v2, g.i 3 (by omega), v3, g.i 4 (by omega), v4, wS, wL, dArg, ← hdp, Int.toNat_natCast, Int.toNat_natCast, Int.toNat_natCast, ← hu, List.append_assoc]
      rfl
    have hRd : LogRd (Hl.one a (lObj dp sl L)) (.pointer (some ⟨a, 0, none⟩)) dp sl L := ⟨a, rfl, hL.1, Hl.one_self _ _⟩
    have bad : ∀ (q : Env) (k : Nat) (vs : List Nat) (t : Mem) (r : Int × DM), Agree 61 ρ q → becomeR D L all nt n = r → r.1 = 5 → DiskAt (q.h k) dp r.2 →
        postOf becomeS [.pointer (some ⟨a, 0, none⟩), u, .agg (bys nt).toArray, .bool true] [H, HA, HD] [] q (.blk 0 (ckCVs 21 ([Ck.ptr, Ck.int IntKind.i64, Ck.int IntKind.i64, Ck.int IntKind.u64, Ck.int IntKind.u64] ++ List.replicate 16 (Ck.int IntKind.u8) ++ [Ck.sl]) ++ [CV.bool E.tt]) 81 :: .hp 48 [] [.var 1] [] :: .hp k vs [.var 21] [] :: t) (.sv (.one (.int .i64 (.lit 5)))) := by
      intro q k vs t r hq hr h5 hd _
      refine ⟨[[0], [1], [2]], [], rfl, rfl, ⟨⟨fun _ => 5, fun _ => false, fun _ => .empty, fun _ => .tuple #[], fun _ => Hl.none⟩, rfl, trivial, trivial⟩, _, a, u, all, nt, H, HA, HD, dp, sl, L, n, D, _, _, _, rfl, rfl, rfl, hL, hsl, hO, hD, rfl, ?_, ?_, fun h => ?_, fun _ => ?_⟩
      · show DiskAt (hls [q.h k]) _ _
        rw [hls_one, hr]; exact hd
      · rw [hr, h5]; rfl
      · rw [hr, h5] at h; cases h
      · show hls [_] = _
        rw [hls_one]; exact eT q hq
    rw [Int.toNat_natCast, eB2 q2 G2]
    refine ⟨by omega, ⟨_, u, all, n, HD, _, HA, dp, sl, L, D, rfl, rfl, rfl, hRd, hO, hD, by omega, by omega, by omega⟩, fun q3 g3 ⟨F, ⟨p', u', all', fr', Hx, R1, R2, dp', sl', L', Dx, H2, hx, hH, hR, hLx, hOx, hDx, hH2, hD2, hvq⟩, _, _⟩ => ?_⟩
    have hx : Value.pointer (some ⟨a, 0, none⟩) = p' ∧ u = u' ∧ (n : Int) = fr' := by simpa using hx
    obtain ⟨rfl, rfl, rfl⟩ := hx
    have hH : HD = Hx := by simpa using hH
    subst hH
    have hR : Hl.one a (lObj dp sl L) = R1 ∧ HA = R2 := by simpa using hR
    obtain ⟨rfl, rfl⟩ := hR
    obtain ⟨rfl, rfl, rfl⟩ := hRd.uniq hLx
    have e := hOx.rd.uniq hO.rd
    subst e
    have e := hDx.uniq hD
    subst e
    have hH2 : q3.h 63 = H2 := by simpa using hH2
    rw [← hH2] at hD2
    have hvq : q3.i 63 = (fillR Dx L.frm all' n).1 := by simpa using hvq
    have G3 : Agree 61 ρ q3 := G2.trans (g3.mono (by omega))
    rw [G3.i 0 (by omega), v0, dArg, Int.toNat_natCast, eB2 q3 G3, eH q3 G3]
    have hNH : headOK (newH L all' nt) := ⟨by simp [newH, hnt], ⟨by show 0 ≤ L.serial + 1; omega, by show L.serial + 1 < _; omega⟩, by show (0 : Int) ≤ (all'.length : Int); omega, by show (all'.length : Int) < _; omega⟩
    refine ⟨fun h63 => ⟨⟨_, _, _, _, dp, sl, L, _, rfl, rfl, rfl, hRd, hD2, hNH⟩, fun q4 g4 ⟨F, ⟨p', h', Hx, R1, dp', sl', L', Dy, H3, hx, hH, hR, hLy, hDy, hh', hH3, hD3, hvt⟩, _, _⟩ => ?_⟩, fun h63 => bad q3 63 _ _ (5, (fillR Dx L.frm all' n).2) G3 (by unfold becomeR; rw [if_pos (by rw [← hvq]; exact h63)]) rfl hD2⟩
    have hx : Value.pointer (some ⟨a, 0, none⟩) = p' ∧ Value.agg (hdV (newH L all' nt)).toArray = Value.agg (hdV h').toArray := by simpa using hx
    obtain ⟨rfl, hx2⟩ := hx
    have e := hdV_inj hNH.1 hh'.1 hx2
    subst e
    have hH : q3.h 63 = Hx := by simpa using hH
    subst hH
    have hR : Hl.one a (lObj dp sl L) = R1 := by simpa using hR
    subst hR
    obtain ⟨rfl, rfl, rfl⟩ := hRd.uniq hLy
    have e := hDy.uniq hD2
    subst e
    have hH3 : q4.h 65 = H3 := by simpa using hH3
    rw [← hH3] at hD3
    have hvt : q4.i 65 = (turnR (fillR Dx L.frm all' n).2 L.frm (newH L all' nt)).1 := by simpa using hvt
    have G4 : Agree 61 ρ q4 := G3.trans (g4.mono (by omega))
    have hnb : ¬ (fillR Dx L.frm all' n).1 ≠ 0 := by rw [← hvq, h63]; simp
    refine ⟨fun h65 => bad q4 65 _ _ (5, (turnR (fillR Dx L.frm all' n).2 L.frm (newH L all' nt)).2) G4 (by unfold becomeR; rw [if_neg hnb, if_pos (by rw [← hvt]; exact h65)]) rfl hD3, fun h65 hd => ?_⟩
    have hr : becomeR Dx L all' nt n = (0, (turnR (fillR Dx L.frm all' n).2 L.frm (newH L all' nt)).2) := by
      unfold becomeR
      rw [if_neg hnb, if_neg (by rw [← hvt, h65]; simp)]
    have hd01 := hd 0 1 _ _ (by decide) rfl rfl rfl
    rw [eG q4 G4] at hd01
    refine ⟨[[0, 1], [], [2]], [], rfl, rfl, ⟨⟨fun _ => 0, fun _ => false, fun _ => .empty, fun _ => .tuple #[], fun _ => Hl.none⟩, rfl, trivial, trivial⟩, _, a, u, all', nt, H, HA, HD, dp, sl, L, n, Dx, _, _, _, rfl, rfl, rfl, hL, hsl, hO, hD, rfl, ?_, ?_, fun _ => ?_, fun h => ?_⟩
    · show DiskAt (hls [q4.h 65]) _ _
      rw [hls_one, hr]; exact hD3
    · rw [hr]; rfl
    · have e48 : q4.h 48 = HA := by rw [G4.h 48 (by omega), w48]
      have hd01 : (Hl.one a (lObj dp u (grownL L all' nt))).dis (q4.h 48) := hd01
      rw [e48] at hd01
      refine ⟨a, u, HA, rfl, ⟨hL.1.frm, hL.1.most, hnt⟩, hO, hd01, ?_⟩
      rw [← e48]
      exact congrArg (fun z => hls [z, q4.h 48]) (eG q4 G4)
    · rw [hr] at h; exact absurd rfl h
end Go.Proofs.YtomdimlnggpgbaaDoor.D
