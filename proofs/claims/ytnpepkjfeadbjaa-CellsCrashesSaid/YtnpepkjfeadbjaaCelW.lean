/- Layer 8: Clear, law08.few, as contracts. No condition. -/
import Derived.Test.YtnpepkjfeadbjaaCelU
set_option linter.unusedSimpArgs false
set_option linter.unusedVariables false
set_option linter.constructorNameAsVariable false
namespace Go.Proofs.Ytnpepkjfeadbjaa
open Go Go.Sx

def clearR (D : DM) (L : LM) (bs : List Int) : AR :=
  if L.over then ⟨5, D, L, bs⟩
  else if 4611686018427387904 ≤ L.serial then ⟨14, D, L, bs⟩
  else if (turnR D L.frm (newH L [] L.note)).1 = 0 then ⟨0, (turnR D L.frm (newH L [] L.note)).2, grownL L [] L.note, []⟩
  else ⟨5, (turnR D L.frm (newH L [] L.note)).2, overL L, bs⟩
def clearS : Sx.Spec where
  fn := 24
  own := [.arg 0, .link 0 0]
  rd := []
  res := [.one (.int .i64)]
  pre := fun xs Hs Rs => ∃ p H HD dp L bs D, xs = [p] ∧ Hs = [H, HD] ∧ LogAt H p dp L bs ∧ DiskAt HD dp D ∧ 0 ≤ L.serial
  post := fun xs Hs Rs v Hs' F => ∃ p H HD dp L bs D H' HD', xs = [p] ∧ Hs = [H, HD] ∧ LogAt H p dp L bs ∧ DiskAt HD dp D ∧ Hs' = [H', HD'] ∧ DiskAt HD' dp (clearR D L bs).D ∧ LogAt H' p dp (clearR D L bs).L (clearR D L bs).bs ∧ v = .int .i64 (clearR D L bs).e
def clearNd : Nd := .and (.imp (.bvar 27) (.post [.blk 0 (ckCVs 1 ([Ck.ptr, Ck.int .i64, Ck.int .i64, Ck.int .u64, Ck.int .u64] ++ List.replicate 16 (Ck.int .u8) ++ [Ck.sl, Ck.bool])) 65, .hp 28 [] [.var 1] [], .hp 29 [] [.var 23] []] (.sv (.one (.int .i64 (.lit 5)))))) (.imp (.not (.bvar 27)) (.and (.imp (.le (.lit 4611686018427387904) (.var 5)) (.post [.blk 0 (ckCVs 1 ([Ck.ptr, Ck.int .i64, Ck.int .i64, Ck.int .u64, Ck.int .u64] ++ List.replicate 16 (Ck.int .u8) ++ [Ck.sl, Ck.bool])) 65, .hp 28 [] [.var 1] [], .hp 29 [] [.var 23] []] (.sv (.one (.int .i64 (.lit 14)))))) (.imp (.not (.le (.lit 4611686018427387904) (.var 5))) (.ext (.alloc 30) (.ext (.alloc 31) (.and (.pre (.call 0 32 [.sv (.one (.hptr (.var 0) (.lit 0))), .sv (.agg ([.int .u64 (.wrap .u64 (.add (.var 5) (.lit 1))), .int .u64 (.lit 0)] ++ ckCVs 7 (List.replicate 16 (Ck.int .u8))))] [.hp 28 [] [.var 1] []] [.blk 0 (ckCVs 1 ([Ck.ptr, Ck.int .i64, Ck.int .i64, Ck.int .u64, Ck.int .u64] ++ List.replicate 16 (Ck.int .u8) ++ [Ck.sl, Ck.bool])) 65])) (.ext (.call 0 32 [.sv (.one (.hptr (.var 0) (.lit 0))), .sv (.agg ([.int .u64 (.wrap .u64 (.add (.var 5) (.lit 1))), .int .u64 (.lit 0)] ++ ckCVs 7 (List.replicate 16 (Ck.int .u8))))] [.hp 28 [] [.var 1] []] [.blk 0 (ckCVs 1 ([Ck.ptr, Ck.int .i64, Ck.int .i64, Ck.int .u64, Ck.int .u64] ++ List.replicate 16 (Ck.int .u8) ++ [Ck.sl, Ck.bool])) 65]) (.and (.imp (.not (.eq (.var 32) (.lit 0))) (.post [.blk 0 (ckCVs 1 ([Ck.ptr, Ck.int .i64, Ck.int .i64, Ck.int .u64, Ck.int .u64] ++ List.replicate 16 (Ck.int .u8) ++ [Ck.sl]) ++ [.bool .tt]) 65, .hp 32 [28] [.var 1] [], .hp 29 [] [.var 23] [], .dead, .dead] (.sv (.one (.int .i64 (.lit 5)))))) (.imp (.eq (.var 32) (.lit 0)) (.post [.blk 0 ([.hptr (.var 1) (.var 2), .int .i64 (.var 3), .int .i64 (.var 4), .int .u64 (.wrap .u64 (.add (.var 5) (.lit 1))), .int .u64 (.lit 0)] ++ ckCVs 7 (List.replicate 16 (Ck.int .u8)) ++ [.sl (.lit (-1)) (.lit 0) (.lit 0) (.lit 0), .bool (.bvar 27)]) 65, .hp 32 [28] [.var 1] [], .hp 29 [] [.var 23] [], .dead, .dead] (.sv (.one (.int .i64 (.lit 0))))))))))))))
def clearΓ : List Sx.Spec := [turnS]
theorem clearΓ_ok : ∀ t ∈ clearΓ, t.OK Try.prog := fun t ht => by
  simp only [clearΓ, List.mem_cons, List.mem_nil_iff, or_false] at ht
  subst ht
  exact turnS_ok
def clearW : Walk Try.prog clearΓ clearS.fn where
  Λ := noLoops
  args := [TP (.var 0) (.lit 0)]
  mem := [.blk 0 (ckCVs 1 logK ++ [.sl (.var 23) (.var 24) (.var 25) (.var 26), .bool (.bvar 27)]) 65, .hp 28 [] [.var 1] [], .hp 29 [] [.var 23] []]
  nv := 30
  nd := clearNd
  ok := by kernel_rfl
theorem clg0 : clearΓ[0]? = some turnS := rfl
def clrEnv (a : Nat) (da : Nat) (L : LM) (sx : Int) (sn sc : Nat) (HD HB : Hl) : Env :=
  ⟨fun k => if k < 1 then (a : Int) else if k < 23 then (lInts da L).getD (k - 1) 0 else [sx, 0, (sn : Int), (sc : Int)].getD (k - 23) 0, fun _ => L.over, fun _ => .empty, fun _ => .tuple #[], fun k => if k = 28 then HD else HB⟩
theorem clearS_ok : clearS.OK Try.prog := by
  refine spec_of_fn2 (Γ := clearΓ) clearΓ_ok ?_
  rintro xs Hs Rs hl1 hl2 hdis ⟨p, H, HD, dp, L, bs, D, rfl, rfl, hAt, hD, hs0⟩
  have e1 : Rs = [] := List.length_eq_zero_iff.1 hl2
  subst e1
  obtain ⟨a, sl, HB, rfl, hok, hO, hone, hH⟩ := id hAt
  obtain ⟨da, s, m, es, clock, hdp, hDi⟩ := id hD
  obtain ⟨sx, sc, hsx, hsl, hsc, _⟩ := OwB.rep hO
  generalize hρ : clrEnv a da L sx bs.length sc HD HB = ρ
  have v0 : ρ.i 0 = a := by rw [← hρ]; rfl
  have w28 : ρ.h 28 = HD := by rw [← hρ]; rfl
  have w29 : ρ.h 29 = HB := by rw [← hρ]; rfl
  have b27 : ρ.b 27 = L.over := by rw [← hρ]; rfl
  have rk : ∀ k, k < 22 → ρ.i (1 + k) = (lInts da L).getD k 0 := fun k hk => by
    rw [← hρ]
    show (if 1 + k < 1 then _ else if 1 + k < 23 then (lInts da L).getD (1 + k - 1) 0 else _) = _
    rw [if_neg (by omega), if_pos (by omega), show 1 + k - 1 = k by omega]
  have lk : ∀ q : Env, Agree 30 ρ q → ∀ k, k < 22 → q.i (1 + k) = (lInts da L).getD k 0 := fun q g k hk => by rw [g.i _ (by omega)]; exact rk k hk
  have ls : ∀ q : Env, Agree 30 ρ q → CV.ev q (.sl (.var 23) (.var 24) (.var 25) (.var 26)) = sl := by
    intro q g
    simp only [CV.ev, iev_var, g.i 23 (by omega), g.i 24 (by omega), g.i 25 (by omega), g.i 26 (by omega)]
    rw [← hρ, hsl]
    show Value.slice (slP sx 0) ((bs.length : Int)).toNat ((sc : Int)).toNat = _
    rw [Int.toNat_natCast, Int.toNat_natCast]
  have eb : ∀ q : Env, Agree 30 ρ q → CV.ev q (.bool (.bvar 27)) = .bool L.over := by
    intro q g
    show Value.bool (q.b 27) = _
    rw [g.b 27 (by omega), b27]
  have eB : ∀ (q : Env), Agree 30 ρ q → (Res.blk 0 (ckCVs 1 logK ++ [.sl (.var 23) (.var 24) (.var 25) (.var 26), .bool (.bvar 27)]) 65).hl q = Hl.one a (lObj dp sl L) := by
    intro q g
    show Hl.one (q.i 0).toNat (.cells ((ckCVs 1 logK ++ [CV.sl (.var 23) (.var 24) (.var 25) (.var 26), .bool (.bvar 27)]).map (CV.ev q)).toArray _ (0, 0)) = _
    rw [List.map_append, logK_ev hok (lk q g), g.i 0 (by omega), v0, List.map_cons, List.map_cons, List.map_nil, ls q g, eb q g, List.append_assoc, ← hdp, Int.toNat_natCast]
    rfl
  have hle1 : (Hl.one a (lObj dp sl L)).le H := by rw [hH]; exact Hl.un_left _ _
  have hle2 : HB.le H := by
    rw [hH]
    show HB.le ((Hl.one a (lObj dp sl L)).un (hls [HB]))
    rw [hls_one]; exact Hl.un_right hone
  have hHD : H.dis HD := hdis 0 1 _ _ (by decide) rfl rfl
  refine ⟨clearW, ρ, fun _ _ => True, fun _ _ => 0, ?_, ⟨?_, ?_, ?_, ?_⟩, (fun _ h => nomatch h), ?_⟩
  · show [Value.pointer (slP (ρ.i 0) 0)] = _
    rw [v0, dArg]
  · intro r hr ho
    simp only [clearW, List.mem_cons, List.mem_nil_iff, or_false] at hr
    rcases hr with rfl | rfl | rfl
    · refine ⟨H, by simp, ?_⟩
      rw [eB ρ (Agree.refl _ _)]; exact hle1
    · refine ⟨HD, by simp, ?_⟩
      show (ρ.h 28).le HD
      rw [w28]; exact Hl.le_refl _
    · refine ⟨H, by simp, ?_⟩
      show (ρ.h 29).le H
      rw [w29]; exact hle2
  · intro r hr ho
    simp only [clearW, List.mem_cons, List.mem_nil_iff, or_false] at hr
    rcases hr with rfl | rfl | rfl <;> cases ho
  · have d1 : HD.dis HB := fun k ⟨h1, h2⟩ => hHD k ⟨Hl.le_mem hle2 h2, h1⟩
    refine List.Pairwise.cons (fun r hr _ ho => ?_) (List.Pairwise.cons (fun r hr _ ho => ?_) (List.Pairwise.cons (fun r hr => by cases hr) List.Pairwise.nil))
    · simp only [List.mem_cons, List.mem_nil_iff, or_false] at hr
      rw [eB ρ (Agree.refl _ _)]
      rcases hr with rfl | rfl
      · show Hl.dis _ (ρ.h 28)
        rw [w28]
        exact fun k ⟨h1, h2⟩ => hHD k ⟨Hl.le_mem hle1 h1, h2⟩
      · show Hl.dis _ (ρ.h 29)
        rw [w29]; exact hone
    · simp only [List.mem_cons, List.mem_nil_iff, or_false] at hr
      subst hr
      show (ρ.h 28).dis (ρ.h 29)
      rw [w28, w29]; exact d1
  · intro r hr
    simp only [clearW, List.mem_cons, List.mem_nil_iff, or_false] at hr
    rcases hr with rfl | rfl | rfl
    · show (0 : Int) ≤ ρ.i 0
      rw [v0]; omega
    · trivial
    · trivial
  · show Nd.holds _ _ _ clearNd
    have eB2 : ∀ q : Env, Agree 30 ρ q → Hl.one a (Obj.cells (List.map (CV.ev q) (ckCVs 1 ([Ck.ptr, Ck.int IntKind.i64, Ck.int IntKind.i64, Ck.int IntKind.u64, Ck.int IntKind.u64] ++ List.replicate 16 (Ck.int IntKind.u8) ++ [Ck.sl, Ck.bool]))).toArray 65 (0, 0)) = Hl.one a (lObj dp sl L) := by
      intro q g
      have h : Hl.one (q.i 0).toNat (Obj.cells (List.map (CV.ev q) (ckCVs 1 ([Ck.ptr, Ck.int IntKind.i64, Ck.int IntKind.i64, Ck.int IntKind.u64, Ck.int IntKind.u64] ++ List.replicate 16 (Ck.int IntKind.u8) ++ [Ck.sl, Ck.bool]))).toArray 65 (0, 0)) = Hl.one a (lObj dp sl L) := eB q g
      rw [g.i 0 (by omega), v0, Int.toNat_natCast] at h
      exact h
    have eT : ∀ q : Env, Agree 30 ρ q → (Res.blk 0 (ckCVs 1 ([Ck.ptr, Ck.int IntKind.i64, Ck.int IntKind.i64, Ck.int IntKind.u64, Ck.int IntKind.u64] ++ List.replicate 16 (Ck.int IntKind.u8) ++ [Ck.sl]) ++ [CV.bool E.tt]) 65).hl q = Hl.one a (lObj dp sl (overL L)) := by
      intro q g
      have h : (Res.blk 0 (ckCVs 1 ([Ck.ptr, Ck.int IntKind.i64, Ck.int IntKind.i64, Ck.int IntKind.u64, Ck.int IntKind.u64] ++ List.replicate 16 (Ck.int IntKind.u8) ++ [Ck.sl]) ++ [CV.bool E.tt]) 65).hl q = Hl.one (q.i 0).toNat (.cells ((ckCVs 1 logK ++ [CV.sl (.var 23) (.var 24) (.var 25) (.var 26), .bool .tt]).map (CV.ev q)).toArray 65 (0, 0)) := rfl
      rw [h, List.map_append, logK_ev hok (lk q g), g.i 0 (by omega), v0, List.map_cons, List.map_cons, List.map_nil, ls q g, List.append_assoc, ← hdp, Int.toNat_natCast]
      rfl
    have hnt : L.note.length = 16 := hok.note
    have eN : ∀ q : Env, Agree 30 ρ q → (ckCVs 7 (List.replicate 16 (Ck.int IntKind.u8))).map (CV.ev q) = bys L.note := fun q g => u8_ev 16 7 L.note hnt fun k hk => by
      have := lk q g (k + 6) (by omega)
      rw [show 7 + k = 1 + (k + 6) by omega, this]
      unfold lInts
      rw [List.getD_eq_getElem?_getD, List.getD_eq_getElem?_getD, List.getElem?_append_right (by simp)]
      simp
    have i23 : ∀ q : Env, Agree 30 ρ q → q.i 1 = da ∧ q.i 2 = 0 ∧ q.i 3 = L.frm ∧ q.i 4 = L.most ∧ q.i 5 = L.serial := fun q g => ⟨lk q g 0 (by omega), lk q g 1 (by omega), lk q g 2 (by omega), lk q g 3 (by omega), lk q g 4 (by omega)⟩
    have hRd : LogRd (Hl.one a (lObj dp sl L)) (.pointer (some ⟨a, 0, none⟩)) dp sl L := ⟨a, rfl, hok, Hl.one_self _ _⟩
    have out : ∀ (q : Env) (t : Mem) (e : Int), Agree 30 ρ q → clearR D L bs = ⟨e, D, L, bs⟩ →
        postOf clearS [.pointer (some ⟨a, 0, none⟩)] [H, HD] [] q (.blk 0 (ckCVs 1 ([Ck.ptr, Ck.int IntKind.i64, Ck.int IntKind.i64, Ck.int IntKind.u64, Ck.int IntKind.u64] ++ List.replicate 16 (Ck.int IntKind.u8) ++ [Ck.sl, Ck.bool])) 65 :: .hp 28 [] [.var 1] [] :: .hp 29 [] [.var 23] [] :: t) (.sv (.one (.int .i64 (.lit e)))) := by
      intro q t e hq hr _
      refine ⟨[[0, 2], [1]], [], rfl, rfl, ⟨⟨fun _ => e, fun _ => false, fun _ => .empty, fun _ => .tuple #[], fun _ => Hl.none⟩, rfl, trivial, trivial⟩, _, H, HD, dp, L, bs, D, _, _, rfl, rfl, hAt, hD, rfl, ?_, ?_, ?_⟩
      · show DiskAt (hls [q.h 28]) _ _
        rw [hls_one, hr, hq.h 28 (by omega), w28]; exact hD
      · rw [hr]
        refine ⟨a, sl, HB, rfl, hok, hO, hone, ?_⟩
        have e29 : q.h 29 = HB := by rw [hq.h 29 (by omega), w29]
        rw [← e29]
        exact congrArg (fun z => hls [z, q.h 29]) (eB q hq)
      · rw [hr]; rfl
    unfold clearNd
    simp only [Nd.holds, X.pre, X.rel, X.n, Src.ok, Src.len, Src.vals, true_and, and_true, if_true, Nat.mul_one, Nat.add_zero, Nat.reduceAdd, List.length_cons, List.length_nil, bT_tt, bT_ff, bT_bvar, bT_not, bT_and, bT_or, bT_ite, bT_lt, bT_le, bT_eq, bT_beq, bT_seq, bT_hB, bT_his, bT_hby, bT_hism, bT_hks, iev_lit, iev_var, iev_add, iev_sub, iev_mul, iev_wrap, iev_ite, iev_hI, iev_hP, iev_hmlen, sev_ite, sev_slit, sev_sof, sev_svar, TV.ev, SV.ev, CV.ev, List.map_cons, List.map_nil, Res.hl, cpTV, Cp.sv, Ck.cv, cpSVs, Cp.len, Ck.len, newHs_zero, newHs_one, roots_ne, clg0, br1]
    rw [b27, rk 4 (by omega)]
    have e4 : (lInts da L).getD 4 0 = L.serial := rfl
    rw [e4]
    refine ⟨fun ho => out ρ _ 5 (Agree.refl _ _) ?_, fun ho => ⟨fun hs => out ρ _ 14 (Agree.refl _ _) ?_, fun hs => ?_⟩⟩
    · unfold clearR; rw [if_pos ho]
    · unfold clearR; rw [if_neg ho, if_pos hs]
    intro q1 g1 _ q2 g2 _
    have G2 : Agree 30 ρ q2 := g1.trans (g2.mono (by omega))
    have wS : IntKind.u64.wrap (L.serial + 1) = L.serial + 1 := wrap_u64 (by omega) (by omega)
    have eH : ∀ q : Env, Agree 30 ρ q → List.map (CV.ev q) ([CV.int IntKind.u64 (E.wrap IntKind.u64 ((E.var 5).add (E.lit 1))), CV.int IntKind.u64 (E.lit 0)] ++ ckCVs 7 (List.replicate 16 (Ck.int IntKind.u8))) = hdV (newH L [] L.note) := by
      intro q g
      rw [List.map_append, eN q g]
      show [Value.int .u64 (IntKind.u64.wrap (q.i 5 + 1)), Value.int .u64 0] ++ bys L.note = _
      rw [(i23 q g).2.2.2.2, wS]; rfl
    rw [G2.i 0 (by omega), v0, dArg, Int.toNat_natCast, eB2 q2 G2, eH q2 G2, G2.h 28 (by omega), w28]
    have hNH : headOK (newH L [] L.note) := ⟨by simp [newH, hnt], ⟨by show 0 ≤ L.serial + 1; omega, by show L.serial + 1 < _; omega⟩, by show (0 : Int) ≤ ((List.length ([] : List Int) : Nat) : Int); simp, by show ((List.length ([] : List Int) : Nat) : Int) < _; simp⟩
    refine ⟨⟨_, _, _, _, dp, sl, L, _, rfl, rfl, rfl, hRd, hD, hNH⟩, fun q4 g4 ⟨F, ⟨p', h', Hx, R1, dp', sl', L', Dy, H3, hx, hH', hR, hLy, hDy, hh', hH3, hD3, hvt⟩, _, _⟩ => ?_⟩
    have hx : Value.pointer (some ⟨a, 0, none⟩) = p' ∧ Value.agg (hdV (newH L [] L.note)).toArray = Value.agg (hdV h').toArray := by simpa using hx
    obtain ⟨rfl, hx2⟩ := hx
    have e := hdV_inj hNH.1 hh'.1 hx2
    subst e
    have hH' : HD = Hx := by simpa using hH'
    subst hH'
    have hR : Hl.one a (lObj dp sl L) = R1 := by simpa using hR
    subst hR
    obtain ⟨rfl, rfl, rfl⟩ := hRd.uniq hLy
    have e := hDy.uniq hD
    subst e
    have hH3 : q4.h 32 = H3 := by simpa using hH3
    rw [← hH3] at hD3
    have hvt : q4.i 32 = (turnR Dy L.frm (newH L [] L.note)).1 := by simpa using hvt
    have G4 : Agree 30 ρ q4 := G2.trans (g4.mono (by omega))
    have e29 : q4.h 29 = HB := by rw [G4.h 29 (by omega), w29]
    refine ⟨fun h32 hd => ?_, fun h32 hd => ?_⟩
    · have hr : clearR Dy L bs = ⟨5, (turnR Dy L.frm (newH L [] L.note)).2, overL L, bs⟩ := by
        unfold clearR
        rw [if_neg ho, if_neg hs, if_neg (by rw [← hvt]; exact h32)]
      have hd02 := hd 0 2 _ _ (by decide) rfl rfl rfl
      rw [eT q4 G4] at hd02
      have hd02 : (Hl.one a (lObj dp sl (overL L))).dis (q4.h 29) := hd02
      rw [e29] at hd02
      refine ⟨[[0, 2], [1]], [], rfl, rfl, ⟨⟨fun _ => 5, fun _ => false, fun _ => .empty, fun _ => .tuple #[], fun _ => Hl.none⟩, rfl, trivial, trivial⟩, _, H, HD, dp, L, bs, Dy, _, _, rfl, rfl, hAt, hD, rfl, ?_, ?_, ?_⟩
      · show DiskAt (hls [q4.h 32]) _ _
        rw [hls_one, hr]; exact hD3
      · rw [hr]
        refine ⟨a, sl, HB, rfl, ⟨hok.frm, hok.most, hok.note⟩, hO, hd02, ?_⟩
        rw [← e29]
        exact congrArg (fun z => hls [z, q4.h 29]) (eT q4 G4)
      · rw [hr]; rfl
    · have hr : clearR Dy L bs = ⟨0, (turnR Dy L.frm (newH L [] L.note)).2, grownL L [] L.note, []⟩ := by
        unfold clearR
        rw [if_neg ho, if_neg hs, if_pos (by rw [← hvt]; exact h32)]
      have eG : (Res.blk 0 ([CV.hptr (E.var 1) (E.var 2), CV.int IntKind.i64 (E.var 3), CV.int IntKind.i64 (E.var 4), CV.int IntKind.u64 (E.wrap IntKind.u64 ((E.var 5).add (E.lit 1))), CV.int IntKind.u64 (E.lit 0)] ++ ckCVs 7 (List.replicate 16 (Ck.int IntKind.u8)) ++ [CV.sl (E.lit (-1)) (E.lit 0) (E.lit 0) (E.lit 0), CV.bool (E.bvar 27)]) 65).hl q4 = Hl.one a (lObj dp (.slice none 0 0) (grownL L [] L.note)) := by
        show Hl.one (q4.i 0).toNat (.cells (List.map (CV.ev q4) _).toArray _ (0, 0)) = _
        rw [List.map_append, List.map_append, eN q4 G4]
        obtain ⟨j0, j1, j2, j3, j4⟩ := i23 q4 G4
        have eb' : q4.b 27 = L.over := by rw [G4.b 27 (by omega), b27]
        show Hl.one (q4.i 0).toNat (.cells ([Value.pointer (slP (q4.i 1) (q4.i 2)), .int .i64 (q4.i 3), .int .i64 (q4.i 4), .int .u64 (IntKind.u64.wrap (q4.i 5 + 1)), .int .u64 0] ++ bys L.note ++ [Value.slice (slP (-1) 0) 0 0, .bool (q4.b 27)]).toArray _ (0, 0)) = _
        rw [j0, j1, j2, j3, j4, eb', G4.i 0 (by omega), v0, wS, dArg, ← hdp, Int.toNat_natCast, slP_nil, List.append_assoc]
        rfl
      refine ⟨[[0], [1]], [], rfl, rfl, ⟨⟨fun _ => 0, fun _ => false, fun _ => .empty, fun _ => .tuple #[], fun _ => Hl.none⟩, rfl, trivial, trivial⟩, _, H, HD, dp, L, bs, Dy, _, _, rfl, rfl, hAt, hD, rfl, ?_, ?_, ?_⟩
      · show DiskAt (hls [q4.h 32]) _ _
        rw [hls_one, hr]; exact hD3
      · rw [hr]
        refine ⟨a, .slice none 0 0, Hl.none, rfl, ⟨hok.frm, hok.most, hnt⟩, ⟨rfl, Or.inl ⟨rfl, rfl⟩⟩, fun k ⟨_, h⟩ => by simp [Hl.mem, Hl.none] at h, ?_⟩
        exact (congrArg (fun z => hls [z]) eG).trans (by simp [hls, Hl.un_none])
      · rw [hr]; rfl
theorem clear_post {p dp v : Value} {bs : List Int} {H HD F : Hl} {K Rs : List Hl} {L : LM} {D : DM} (h1 : LogAt H p dp L bs) (h2 : DiskAt HD dp D) (hp : clearS.post [p] [H, HD] Rs v K F) :
    ∃ H' HD', K = [H', HD'] ∧ DiskAt HD' dp (clearR D L bs).D ∧ LogAt H' p dp (clearR D L bs).L (clearR D L bs).bs ∧ v = .int .i64 (clearR D L bs).e := by
  obtain ⟨p', Hx, HDx, dp', L', bs', D', H', HD', hx, hH, hLx, hDx, hK, hDy, hLy, hv⟩ := hp
  have hx : p = p' := by simpa using hx
  subst hx
  have hH : H = Hx ∧ HD = HDx := by simpa using hH
  obtain ⟨e1, e2⟩ := hH
  subst e1 e2
  obtain ⟨e1, e2, e3⟩ := hLx.uniq h1
  subst e1 e2 e3
  have e := hDx.uniq h2
  subst e
  exact ⟨H', HD', hK, hDy, hLy, hv⟩

/-! ### few -/
def opK : List Kd := [.int .u8, .int .u8, .int .i64, .slice]
def fewS : Sx.Spec where
  fn := 23
  own := []
  rd := [0]
  res := [.one .bool]
  pre := fun xs Hs Rs => ∃ v R rows, xs = [v] ∧ Rs = [R] ∧ RdRows R v opK rows
  post := fun xs Hs Rs v Hs' F => ∃ u R rows b, xs = [u] ∧ Rs = [R] ∧ RdRows R u opK rows ∧ v = .bool b ∧ (b = true → rows.length ≤ 40)
def fewNd : Nd := .and (.inv 0 [⟨10, 0, .int .i64 (.lit 0)⟩, ⟨11, 0, .int .i64 (.lit 0)⟩] []) (.havoc 0 0 5 (.and (.e (.le (.lit 0) (.var 2))) (.and (.imp (.lt (.var 11) (.var 2)) (.and (.imp (.lt (.var 11) (.lit 100)) (.and (.e (.le (.lit 0) (.var 0))) (.and (.e (.le (.lit 0) (.var 1))) (.and (.e (.le (.lit 0) (.var 11))) (.and (.e (.his 4 (.var 0) (.add (.add (.var 1) (.mul (.var 11) (.lit 4))) (.lit 3)) 0 .slice)) (.and (.e (.le (.lit 0) (.hP 4 (.var 0) (.add (.add (.var 1) (.mul (.var 11) (.lit 4))) (.lit 3)) 0 2))) (.back 0 0 [⟨10, 0, .int .i64 (.wrap .i64 (.add (.var 10) (.ite (.lt (.lit 4000) (.hP 4 (.var 0) (.add (.add (.var 1) (.mul (.var 11) (.lit 4))) (.lit 3)) 0 2)) (.lit 4000) (.hP 4 (.var 0) (.add (.add (.var 1) (.mul (.var 11) (.lit 4))) (.lit 3)) 0 2))))⟩, ⟨11, 0, .int .i64 (.wrap .i64 (.add (.var 11) (.lit 1)))⟩] []))))))) (.imp (.not (.lt (.var 11) (.lit 100))) (.and (.imp (.le (.var 2) (.lit 40)) (.post [.ro 4 [.var 0] true] (.sv (.one (.bool (.le (.var 10) (.lit 6000))))))) (.imp (.not (.le (.var 2) (.lit 40))) (.post [.ro 4 [.var 0] true] (.sv (.one (.bool .ff))))))))) (.imp (.not (.lt (.var 11) (.var 2))) (.and (.imp (.le (.var 2) (.lit 40)) (.post [.ro 4 [.var 0] true] (.sv (.one (.bool (.le (.var 10) (.lit 6000))))))) (.imp (.not (.le (.var 2) (.lit 40))) (.post [.ro 4 [.var 0] true] (.sv (.one (.bool .ff))))))))))
def fewW : Walk Try.prog [] fewS.fn where
  Λ := fun p => if lp p then some ⟨0, [(3, TI .i64 (.var 10)), (4, TI .i64 (.var 11))], [], 20⟩ else none
  args := [.sv (.one (.sl (.var 0) (.var 1) (.var 2) (.var 3)))]
  mem := [.ro 4 [.var 0] true]
  nv := 5
  nd := fewNd
  ok := by kernel_rfl
theorem fewS_ok : fewS.OK Try.prog := by
  refine Spec.of_fn (Γ := []) (fun t ht => nomatch ht) ?_
  rintro xs Hs Rs hl1 hl2 ⟨v, R, rows, rfl, rfl, hRd⟩
  have e0 : Hs = [] := List.length_eq_zero_iff.1 hl1
  subst e0
  obtain ⟨x, y, c, rfl, hy, hrows⟩ := id hRd
  refine ⟨fewW, envI [x, y, rows.length, c] false [Hl.none, Hl.none, Hl.none, Hl.none, R], fun _ q => 0 ≤ q.i 11, fun _ q => (rows.length - q.i 11).toNat, ?_, ⟨?_, ?_, ?_, ?_⟩, (fun _ h => nomatch h), ?_⟩
  · show [Value.slice (slP x y) ((rows.length : Int)).toNat ((c : Int)).toNat] = _
    rw [Int.toNat_natCast, Int.toNat_natCast]
  · intro r hr ho; simp [fewW] at hr; subst hr; cases ho
  · intro r hr ho; simp [fewW] at hr; subst hr; exact ⟨R, by simp, Hl.le_refl _⟩
  · simp [fewW]
  · intro r hr; simp [fewW] at hr; subst hr; trivial
  · show Nd.holds _ _ _ fewNd
    generalize hρ : envI [x, y, rows.length, c] false [Hl.none, Hl.none, Hl.none, Hl.none, R] = ρ
    have v0 : ρ.i 0 = x := by rw [← hρ]; rfl
    have v1 : ρ.i 1 = y := by rw [← hρ]; rfl
    have v2 : ρ.i 2 = rows.length := by rw [← hρ]; rfl
    have w4 : ρ.h 4 = R := by rw [← hρ]; rfl
    have out : ∀ (q : Env) (t : Mem) (e : E), (bev q e = true → rows.length ≤ 40) → postOf fewS [.slice (slP x y) rows.length c] [] [R] q t (.sv (.one (.bool e))) := fun q t e he _ =>
      ⟨[], [], rfl, rfl, ⟨⟨fun _ => 0, fun _ => bev q e, fun _ => .empty, fun _ => .tuple #[], fun _ => Hl.none⟩, rfl, trivial, trivial⟩, _, R, rows, bev q e, rfl, rfl, hRd, rfl, he⟩
    unfold fewNd
    simp only [Nd.holds, X.pre, X.rel, X.n, Src.ok, Src.len, Src.vals, true_and, and_true, if_true, Nat.mul_one, Nat.add_zero, Nat.reduceAdd, List.length_cons, List.length_nil, bT_tt, bT_ff, bT_bvar, bT_not, bT_and, bT_or, bT_ite, bT_lt, bT_le, bT_eq, bT_beq, bT_seq, bT_hB, bT_his, bT_hby, bT_hism, bT_hks, iev_lit, iev_var, iev_add, iev_sub, iev_mul, iev_wrap, iev_ite, iev_hI, iev_hP, iev_hmlen, sev_ite, sev_slit, sev_sof, sev_svar, TV.ev, SV.ev, CV.ev, List.map_cons, List.map_nil, Res.hl]
    refine ⟨by show (0 : Int) ≤ 0; omega, fun q g h0 => ?_⟩
    have h0 : 0 ≤ q.i 11 := h0
    rw [g.i 2 (by omega), v2, g.i 0 (by omega), v0, g.i 1 (by omega), v1, g.h 4 (by omega), w4]
    refine ⟨by omega, fun hlt => ⟨fun hh => ?_, fun _ => ⟨fun hle => out _ _ _ fun _ => by omega, fun _ => out _ _ _ fun h => by cases h⟩⟩, fun _ => ⟨fun hle => out _ _ _ fun _ => by omega, fun _ => out _ _ _ fun h => by cases h⟩⟩
    obtain ⟨i, hi⟩ : ∃ i : Nat, q.i 11 = i := ⟨(q.i 11).toNat, by omega⟩
    rw [hi] at hlt hh ⊢
    have hil : i < rows.length := by omega
    obtain ⟨row, hrow⟩ : ∃ r, rows[i]? = some r := ⟨_, List.getElem?_eq_getElem hil⟩
    rcases hrows with h | ⟨hx0, hr⟩
    · subst h; cases hil
    obtain ⟨hk, hc⟩ := hr i row hrow
    obtain ⟨a, b, d, u, rfl⟩ : ∃ a b d u, row = [a, b, d, u] := by
      match row, rowOK_length hk with
      | [a, b, d, u], _ => exact ⟨a, b, d, u, rfl⟩
    obtain ⟨_, _, _, hsl, _⟩ := hk
    have hcu := hc 3 u rfl
    have hat : (y + (i : Int) * 4 + 3).toNat = y.toNat + i * opK.length + 3 := by show _ = y.toNat + i * 4 + 3; omega
    rw [hat, hcu]
    have hpl : 0 ≤ valP (some u) 2 := by
      cases u <;> simp [valIs] at hsl
      simp [valP]
    refine ⟨hx0, hy, by omega, hsl, hpl, ?_, ?_⟩
    all_goals
      have m11 : ∀ e z, (assign q [⟨10, 0, .int .i64 e⟩, ⟨11, 0, .int .i64 (.wrap .i64 (.add (.var 11) (.lit 1)))⟩] z).i 11 = i + 1 := fun e z => by
        show IntKind.i64.wrap (q.i 11 + 1) = _
        rw [hi, wrap_i64 (by omega) (by omega)]
    · show 0 ≤ _
      rw [m11]; omega
    · rw [m11]; omega
end Go.Proofs.Ytnpepkjfeadbjaa
