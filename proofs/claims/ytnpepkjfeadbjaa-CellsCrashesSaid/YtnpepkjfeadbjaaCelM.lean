/- Layer 8: law08.note, law08.awake, as contracts. No condition. -/
import Derived.Test.YtnpepkjfeadbjaaCelP
set_option linter.unusedSimpArgs false
set_option linter.unusedVariables false
set_option linter.constructorNameAsVariable false
namespace Go.Proofs.Ytnpepkjfeadbjaa
open Go Go.Sx

def noteL (n : Int) : List Int := List.replicate 16 n
def noteG (xs : List Value) : Value := match xs with
  | [.int _ n] => .agg (bys (noteL n)).toArray
  | _ => .bool false
def noteS : Sx.Spec := pureS 11 [.one (.int .u8)] [.agg (u8s 16)] (fun _ => True) noteG
def noteNd : Nd := .ext (.alloc 1) (.ext (.alloc 2) (.post [.dead, .dead] (.sv (.agg (List.replicate 16 (CV.int .u8 (.var 0)))))))
def noteW : Walk Try.prog [] 11 where
  Λ := noLoops
  args := (cpSVs 0 [.one (.int .u8)]).map .sv
  mem := []
  nv := 1
  nd := noteNd
  ok := by kernel_rfl
theorem noteS_ok : noteS.OK Try.prog := by
  refine pure_of (fun t h => by cases h) noteW rfl rfl rfl (fun q _ _ => ?_) (fun q hq hN => ⟨fun _ _ => True, fun _ _ => 0, ?_⟩)
  · obtain ⟨ρ, _, _, e⟩ := row_rep (u8s 16) 0 (bys (noteL (q.i 0))) q (rowOK_bys 16 _ rfl)
    exact ⟨ρ, by show Value.agg (bys (noteL (q.i 0))).toArray = Value.agg ((ckCVs 0 (u8s 16)).map (CV.ev ρ)).toArray; rw [e], ckNorms_pure _ _ _ (by decide), trivial⟩
  · show Nd.holds _ _ _ noteNd
    unfold noteNd
    simp only [Nd.holds, X.pre, X.rel, X.n]
    intro q1 g1 _ q2 g2 _
    have G : Agree 1 q q2 := g1.trans (g2.mono (by omega))
    show Value.agg (List.map (CV.ev q2) (List.replicate 16 (CV.int .u8 (.var 0)))).toArray = Value.agg (bys (noteL (q.i 0))).toArray
    rw [List.map_replicate]
    show Value.agg (List.replicate 16 (Value.int .u8 (q2.i 0))).toArray = Value.agg (bys (noteL (q.i 0))).toArray
    rw [G.i 0 (by omega)]
    unfold noteL bys
    rw [List.map_replicate]
theorem note_pre (n : Int) : noteS.pre [.int .u8 n] [] [] := ⟨⟨envI [n] false [], ⟨trivial, trivial⟩, rfl⟩, trivial⟩

/-! ### awake -/
def awakeS : Sx.Spec where
  fn := 7
  own := []
  rd := []
  res := [.one .bool]
  pre := fun xs Hs Rs => xs = []
  post := fun xs Hs Rs v Hs' F => v = .bool true
def awakeNd : Nd := .and (.pre (.call 0 0 [.sv (.one (.int .i64 (.lit 3)))] [] [])) (.ext (.call 0 0 [.sv (.one (.int .i64 (.lit 3)))] [] []) (.and (.pre (.call 1 2 [.sv (.one (.hptr (.var 0) (.var 1))), .sv (.one (.int .i64 (.lit 0))), .sv (.one (.int .i64 (.lit 3)))] [.hp 0 [] [.var 0] []] [])) (.ext (.call 1 2 [.sv (.one (.hptr (.var 0) (.var 1))), .sv (.one (.int .i64 (.lit 0))), .sv (.one (.int .i64 (.lit 3)))] [.hp 0 [] [.var 0] []] []) (.and (.imp (.eq (.var 4) (.lit 0)) (.and (.imp (.not (.eq (.var 2) (.lit (-1)))) (.and (.pre (.call 6 5 [.sv (.one (.hptr (.var 2) (.var 3)))] [] [.hp 3 [] [.var 2] [.var 0]])) (.ext (.call 6 5 [.sv (.one (.hptr (.var 2) (.var 3)))] [] [.hp 3 [] [.var 2] [.var 0]]) (.and (.imp (.eq (.var 5) (.lit 64)) (.ext (.alloc 6) (.ext (.cbs 7 6 [.int .u8 (.lit 120)] 5) (.and (.pre (.call 2 8 [.sv (.one (.hptr (.var 2) (.var 3))), .sv (.one (.sl (.var 6) (.lit 0) (.lit 1) (.lit 1))), .sv (.agg ([.int .u8 (.lit 1)] ++ List.replicate 15 (CV.int .u8 (.lit 0))))] [.hp 3 [] [.var 2] [.var 0], .hp 2 [0] [.var 0] []] [.hp 7 [] [.var 6] []])) (.ext (.call 2 8 [.sv (.one (.hptr (.var 2) (.var 3))), .sv (.one (.sl (.var 6) (.lit 0) (.lit 1) (.lit 1))), .sv (.agg ([.int .u8 (.lit 1)] ++ List.replicate 15 (CV.int .u8 (.lit 0))))] [.hp 3 [] [.var 2] [.var 0], .hp 2 [0] [.var 0] []] [.hp 7 [] [.var 6] []]) (.and (.imp (.eq (.var 8) (.lit 0)) (.and (.pre (.call 3 11 [.sv (.one (.hptr (.var 2) (.var 3)))] [] [.hp 8 [3] [.var 2] [.var 0], .hp 8 [3] [.var 2] [.var 0]])) (.ext (.call 3 11 [.sv (.one (.hptr (.var 2) (.var 3)))] [] [.hp 8 [3] [.var 2] [.var 0], .hp 8 [3] [.var 2] [.var 0]]) (.and (.e (.or (.eq (.var 11) (.lit (-1))) (.or (.eq (.var 13) (.lit 0)) (.and (.le (.lit 0) (.var 11)) (.and (.le (.lit 0) (.var 12)) (.hby 11 (.var 11) (.var 12) (.var 13))))))) (.post [.hp 9 [2, 0] [.var 0] [], .hp 8 [3] [.var 2] [.var 0], .hp 7 [] [.var 6] [], .hp 11 [] [.var 11] []] (.sv (.one (.bool (.seq (.ite (.eq (.var 11) (.lit (-1))) (.slit ⟨#[]⟩) (.sof 11 (.var 11) (.var 12) (.var 13))) (.slit ⟨#[120]⟩)))))))))) (.imp (.not (.eq (.var 8) (.lit 0))) (.post [.hp 9 [2, 0] [.var 0] [], .hp 8 [3] [.var 2] [.var 0], .hp 7 [] [.var 6] []] (.sv (.one (.bool .ff))))))))))) (.imp (.not (.eq (.var 5) (.lit 64))) (.post [.hp 2 [0] [.var 0] [], .hp 3 [] [.var 2] [.var 0]] (.sv (.one (.bool .ff))))))))) (.imp (.eq (.var 2) (.lit (-1))) (.post [.hp 2 [0] [.var 0] [], .hp 3 [] [.var 2] [.var 0]] (.sv (.one (.bool .ff))))))) (.imp (.not (.eq (.var 4) (.lit 0))) (.post [.hp 2 [0] [.var 0] [], .hp 3 [] [.var 2] [.var 0]] (.sv (.one (.bool .ff)))))))))
def cΓ : List Sx.Spec := [newS, openS, appendS, bytesS, serialS, lnoteS, roomS, noteS]
theorem cΓ_ok : ∀ t ∈ cΓ, t.OK Try.prog := fun t ht => by
  simp only [cΓ, List.mem_cons, List.mem_nil_iff, or_false] at ht
  rcases ht with rfl | rfl | rfl | rfl | rfl | rfl | rfl | rfl
  · exact newS_ok
  · exact openS_ok
  · exact appendS_ok
  · exact bytesS_ok
  · exact serialS_ok
  · exact lnoteS_ok
  · exact roomS_ok
  · exact noteS_ok
def awakeW : Walk Try.prog cΓ awakeS.fn where
  Λ := noLoops
  args := []
  mem := []
  nv := 0
  nd := awakeNd
  ok := by kernel_rfl
theorem cg0 : cΓ[0]? = some newS := rfl
theorem cg1 : cΓ[1]? = some openS := rfl
theorem cg2 : cΓ[2]? = some appendS := rfl
theorem cg3 : cΓ[3]? = some bytesS := rfl
theorem cg6 : cΓ[6]? = some roomS := rfl
theorem cr0 : newS.res = [.one .ptr] := rfl
theorem cr1 : openS.res = [.one .ptr, .one (.int .i64)] := rfl
theorem cr2 : appendS.res = [.one (.int .i64)] := rfl
theorem cc0 : (cpRoots 0 [Cp.one .ptr] ≠ []) = True := by simp [cpRoots, Cp.roots, Ck.root]
theorem cc1 : (cpRoots 0 [Cp.one .ptr, Cp.one (.int .i64)] ≠ []) = True := by simp [cpRoots, Cp.roots, Ck.root]
/-- A contract's bytes as a text. -/
theorem OwB.textE {F : Hl} {e : TypeId} {x y l c : Int} {bs : List Int} (h : OwB F e (.slice (slP x y) l.toNat c.toNat) bs) (hx : -1 ≤ x) (hy : 0 ≤ y) (hl : 0 ≤ l) :
    (x = -1 ∨ l = 0 ∨ 0 ≤ x ∧ 0 ≤ y ∧ cellBytes F x.toNat y.toNat l.toNat = true) ∧ (if x = -1 then ByteArray.empty else bytesOf (cellInts F x.toNat y.toNat l.toNat)) = bytesOf bs := by
  obtain ⟨h1, h2⟩ := h.rd.text hx hy hl
  exact ⟨h1.imp id Or.inr, h2⟩
/-! ### Contracts at known logs -/
theorem open_post {dp v : Value} {frm n : Int} {H H' F : Hl} {D : DM} (hD : DiskAt H dp D) (hp : openS.post [dp, .int .i64 frm, .int .i64 n] [H] [] v [H'] F) :
    ∃ pv, DiskAt H' dp D ∧ v = .tuple #[pv, .int .i64 (openE D frm n)] ∧ (openE D frm n = 0 → LogAt F pv dp (openL D frm n) (openB D frm n)) ∧ (openE D frm n ≠ 0 → pv = .pointer none) := by
  obtain ⟨dp', frm', n', Hx, D', H'', pv, hx, hH, hDx, hH', hDy, hv, hl⟩ := hp
  have hx : dp = dp' ∧ frm = frm' ∧ n = n' := by simpa using hx
  obtain ⟨e1, e2, e3⟩ := hx
  subst e1 e2 e3
  have hH : H = Hx := by simpa using hH
  subst hH
  have e := hDx.uniq hD
  subst e
  have hH' : H' = H'' := by simpa using hH'
  subst hH'
  exact ⟨pv, hDy, hv, hl⟩
theorem append_post {p u dp v : Value} {nt b bs : List Int} {H HD R F : Hl} {K : List Hl} {L : LM} {D : DM} (h1 : LogAt H p dp L bs) (h2 : DiskAt HD dp D) (h3 : RdW R u b) (hp : appendS.post [p, u, .agg (bys nt).toArray] [H, HD] [R] v K F) :
    ∃ H' HD', K = [H', HD'] ∧ DiskAt HD' dp (appendR D L bs b nt).D ∧ LogAt H' p dp (appendR D L bs b nt).L (appendR D L bs b nt).bs ∧ v = .int .i64 (appendR D L bs b nt).e := by
  obtain ⟨p', u', b', nt', Hx, HDx, Rx, dp', L', bs', D', H', HD', hx, hH, hR, hLx, hDx, hBx, hK, hDy, hLy, hv⟩ := hp
  have hx : p = p' ∧ u = u' ∧ bys nt = bys nt' := by simpa using hx
  obtain ⟨e1, e2, e3⟩ := hx
  have e3 := bys_inj e3
  subst e1 e2 e3
  have hH : H = Hx ∧ HD = HDx := by simpa using hH
  obtain ⟨e1, e2⟩ := hH
  subst e1 e2
  have hR : R = Rx := by simpa using hR
  subst hR
  obtain ⟨e1, e2, e3⟩ := hLx.uniq h1
  subst e1 e2 e3
  have e := hDx.uniq h2
  subst e
  have e := hBx.uniq h3
  subst e
  exact ⟨H', HD', hK, hDy, hLy, hv⟩
theorem bytes_pre {p dp : Value} {H : Hl} {L : LM} {bs : List Int} (h : LogAt H p dp L bs) (hb : bs.length ≤ 1048576) : bytesS.pre [p] [] [H, H] := by
  obtain ⟨sl, h1, h2⟩ := h.parts
  exact ⟨p, H, H, dp, sl, L, bs, rfl, rfl, h1, h2, hb⟩
theorem bytes_post {p dp v : Value} {H F : Hl} {K : List Hl} {L : LM} {bs : List Int} (h : LogAt H p dp L bs) (hp : bytesS.post [p] [] [H, H] v K F) : OwB F 5 v bs := by
  obtain ⟨sl, h1, h2⟩ := h.parts
  obtain ⟨p', R1, R2, dp', sl', L', bs', hx, hR, hLx, hBx, hO⟩ := hp
  have hx : p = p' := by simpa using hx
  subst hx
  have hR : H = R1 ∧ H = R2 := by simpa using hR
  obtain ⟨e1, e2⟩ := hR
  subst e1 e2
  obtain ⟨e1, e2, e3⟩ := hLx.uniq h1
  subst e1 e2 e3
  have e := hBx.uniq h2
  subst e
  exact hO
theorem room_pre {p dp : Value} {H : Hl} {L : LM} {bs : List Int} (h : LogAt H p dp L bs) (hb : bs.length ≤ 1048576) : roomS.pre [p] [] [H] := by
  obtain ⟨sl, h1, h2⟩ := h.parts
  exact ⟨p, H, dp, sl, L, bs.length, rfl, rfl, h1, RdB.slOf h2, hb⟩
theorem room_post {p dp v : Value} {H F : Hl} {K : List Hl} {L : LM} {bs : List Int} (h : LogAt H p dp L bs) (hp : roomS.post [p] [] [H] v K F) : v = .int .i64 (L.most - bs.length) := by
  obtain ⟨sl, h1, h2⟩ := h.parts
  obtain ⟨p', R1, dp', sl', L', n', hx, hR, hLx, hs, hv⟩ := hp
  have hx : p = p' := by simpa using hx
  subst hx
  have hR : H = R1 := by simpa using hR
  subst hR
  obtain ⟨e1, e2, e3⟩ := hLx.uniq h1
  subst e1 e2 e3
  have e := hs.uniq (RdB.slOf h2)
  subst e
  exact hv
theorem serial_pre {p dp : Value} {H : Hl} {L : LM} {bs : List Int} (h : LogAt H p dp L bs) : serialS.pre [p] [] [H] := by
  obtain ⟨sl, h1, h2⟩ := h.parts
  exact ⟨p, H, dp, sl, L, rfl, rfl, h1⟩
theorem serial_post {p dp v : Value} {H F : Hl} {K : List Hl} {L : LM} {bs : List Int} (h : LogAt H p dp L bs) (hp : serialS.post [p] [] [H] v K F) : v = .int .u64 L.serial := by
  obtain ⟨sl, h1, h2⟩ := h.parts
  obtain ⟨p', R1, dp', sl', L', hx, hR, hLx, hv⟩ := hp
  have hx : p = p' := by simpa using hx
  subst hx
  have hR : H = R1 := by simpa using hR
  subst hR
  obtain ⟨e1, e2, e3⟩ := hLx.uniq h1
  subst e1 e2 e3
  exact hv
theorem lnote_pre {p dp : Value} {H : Hl} {L : LM} {bs : List Int} (h : LogAt H p dp L bs) : lnoteS.pre [p] [] [H] := by
  obtain ⟨sl, h1, h2⟩ := h.parts
  exact ⟨p, H, dp, sl, L, rfl, rfl, h1⟩
theorem lnote_post {p dp v : Value} {H F : Hl} {K : List Hl} {L : LM} {bs : List Int} (h : LogAt H p dp L bs) (hp : lnoteS.post [p] [] [H] v K F) : v = .agg (bys L.note).toArray := by
  obtain ⟨sl, h1, h2⟩ := h.parts
  obtain ⟨p', R1, dp', sl', L', hx, hR, hLx, hv⟩ := hp
  have hx : p = p' := by simpa using hx
  subst hx
  have hR : H = R1 := by simpa using hR
  subst hR
  obtain ⟨e1, e2, e3⟩ := hLx.uniq h1
  subst e1 e2 e3
  exact hv
theorem LogAt.ne {H : Hl} {x y : Int} {dp : Value} {L : LM} {bs : List Int} (h : LogAt H (.pointer (slP x y)) dp L bs) : x ≠ -1 := by
  obtain ⟨a, _, _, he, _⟩ := h
  intro hx
  rw [hx, slP_nil] at he
  cases he
set_option maxRecDepth 20000 in
theorem awakeS_ok : awakeS.OK Try.prog := by
  refine Spec.of_fn (Γ := cΓ) cΓ_ok ?_
  rintro xs Hs Rs hl1 hl2 rfl
  have e0 : Hs = [] := List.length_eq_zero_iff.1 hl1
  have e1 : Rs = [] := List.length_eq_zero_iff.1 hl2
  subst e0; subst e1
  refine ⟨awakeW, envI [] false [], fun _ _ => True, fun _ _ => 0, rfl, ⟨?_, ?_, ?_, ?_⟩, (fun _ h => nomatch h), ?_⟩
  · intro r hr; simp [awakeW] at hr
  · intro r hr; simp [awakeW] at hr
  · simp [awakeW]
  · intro r hr; simp [awakeW] at hr
  · show Nd.holds _ _ _ awakeNd
    unfold awakeNd
    simp only [Nd.holds, X.pre, X.rel, X.n, Src.ok, Src.len, Src.vals, true_and, and_true, if_true, Nat.mul_one, Nat.add_zero, Nat.reduceAdd, List.length_cons, List.length_nil, bT_tt, bT_ff, bT_bvar, bT_not, bT_and, bT_or, bT_ite, bT_lt, bT_le, bT_eq, bT_beq, bT_seq, bT_hB, bT_his, bT_hby, bT_hism, bT_hks, iev_lit, iev_var, iev_add, iev_sub, iev_mul, iev_wrap, iev_ite, iev_hI, iev_hP, iev_hmlen, sev_ite, sev_slit, sev_sof, sev_svar, TV.ev, SV.ev, CV.ev, List.map_cons, List.map_nil, Res.hl, cpTV, Cp.sv, Ck.cv, cpSVs, Cp.len, Ck.len, newHs_zero, newHs_one, roots_ne, cg0, cg1, cg2, cg3, cg6, cr0, cr1, cr2, ar0, ar1, cc0, cc1, ac1]
    refine ⟨⟨3, rfl⟩, fun q1 g1 ⟨F1, ⟨n1, hx1, hD1⟩, hF1, _⟩ => ?_⟩
    have hx1 : n1 = 3 := by simpa using hx1.symm
    subst hx1
    have hF1 := hF1 trivial
    subst hF1
    have hH := newD_holds (m := 3) (n := 3) (frm := 0) (by decide) (by decide) (by decide)
    refine ⟨⟨_, 0, 3, _, _, rfl, rfl, hD1⟩, fun q2 g2 ⟨F2, hp2, hF2, _⟩ => ?_⟩
    have hF2 := hF2 trivial
    obtain ⟨pv, hD2, hv2, hl2, _⟩ := open_post hD1 hp2
    have hoe : openE (newD 3) 0 3 = 0 := hH.openE
    have hl2 := hl2 hoe
    have hoL : openL (newD 3) 0 3 = _ := hH.openL
    have hoB : openB (newD 3) 0 3 = [] := hH.openB
    rw [hoe] at hv2
    rw [hoL, hoB, ← hF2] at hl2
    simp only [Value.tuple.injEq, Array.mk.injEq, List.cons.injEq, Value.int.injEq, true_and, and_true] at hv2
    obtain ⟨rfl, h4⟩ := hv2
    refine ⟨fun _ => ⟨fun _ => ⟨room_pre hl2 (by simp), fun q3 g3 ⟨F3, hp3, _, _⟩ => ?_⟩, fun h => absurd h hl2.ne⟩, fun h => absurd h4 h⟩
    have h5 := room_post hl2 hp3
    have h5 : q3.i 5 = 64 := by simpa using h5
    refine ⟨fun _ q4 g4 p6 q5 g5 h7 => ?_, fun h => absurd h5 h⟩
    have G5 : Agree 5 q2 q5 := (g3.trans (g4.mono (by omega))).trans (g5.mono (by omega))
    have e6 : q5.i 6 = q4.i 6 := g5.i 6 (by omega)
    rw [G5.i 2 (by omega), G5.i 3 (by omega), G5.h 3 (by omega), G5.h 2 (by omega), e6]
    have hrd : RdW (q5.h 7) (.slice (slP (q4.i 6) 0) (Int.toNat 1) (Int.toNat 1)) [120] := by
      refine ⟨q4.i 6, 0, 1, rfl, Int.le_refl _, Or.inr ⟨p6, fun j z hz => ?_⟩⟩
      rw [h7, Hl.one_cell]
      match j with
      | 0 => cases hz; rfl
    have en : Value.agg (List.map (CV.ev q5) ([CV.int IntKind.u8 (E.lit 1)] ++ List.replicate 15 (CV.int IntKind.u8 (E.lit 0)))).toArray = .agg (bys (1 :: List.replicate 15 0)).toArray := rfl
    have hD2' : DiskAt (q2.h 2) (.pointer (slP (q1.i 0) (q1.i 1))) (newD 3) := hD2
    rw [en]
    refine ⟨⟨_, _, [120], 1 :: List.replicate 15 0, _, _, _, _, _, _, _, rfl, rfl, rfl, hl2, hD2', hrd, by decide, rfl, by decide⟩, fun q6 g6 ⟨F6, hp6, _, _⟩ => ?_⟩
    obtain ⟨H', HD', hK, hD6, hL6, hv6⟩ := append_post hl2 hD2' hrd hp6
    obtain ⟨a1, a2, a3, a4⟩ := hH.append (b := [120]) (nt' := 1 :: List.replicate 15 0) (by decide) (by decide) rfl
    have a1 : (appendR (newD 3) ⟨0, 64 * (3 - 2), 0, 0, List.replicate 16 0, false⟩ [] [120] (1 :: List.replicate 15 0)).e = 0 := a1
    have a3 : (appendR (newD 3) ⟨0, 64 * (3 - 2), 0, 0, List.replicate 16 0, false⟩ [] [120] (1 :: List.replicate 15 0)).bs = [120] := a3
    have hv6 : q6.i 8 = 0 := by
      have e := hv6.trans (congrArg (Value.int .i64) a1)
      simpa using e
    have hK : q6.h 8 = H' := by
      have h1 : [q6.h 8, q6.h 9] = [H', HD'] := hK
      have h2 : q6.h 8 = H' ∧ q6.h 9 = HD' := by simpa using h1
      exact h2.1
    have hL6 : LogAt (q6.h 8) (.pointer (slP (q2.i 2) (q2.i 3))) (.pointer (slP (q1.i 0) (q1.i 1))) (appendR (newD 3) ⟨0, 64 * (3 - 2), 0, 0, List.replicate 16 0, false⟩ [] [120] (1 :: List.replicate 15 0)).L [120] := by
      rw [hK, ← a3]; exact hL6
    have G6 : Agree 5 q2 q6 := G5.trans (g6.mono (by omega))
    rw [G6.i 2 (by omega), G6.i 3 (by omega)]
    refine ⟨fun _ => ⟨bytes_pre hL6 (by decide), fun q7 g7 ⟨F7, hp7, hF7, hn7⟩ => ?_⟩, fun h => absurd hv6 h⟩
    have hF7 := hF7 trivial
    have hO := bytes_post hL6 hp7
    obtain ⟨⟨n11, n12, n13, n14⟩, _⟩ := hn7
    rw [← hF7] at hO
    obtain ⟨t1, t2⟩ := OwB.textE hO n11 n12 n13
    have hb : bev q7 ((((E.var 11).eq (E.lit (-1))).ite (E.slit ⟨#[]⟩) (E.sof 11 (E.var 11) (E.var 12) (E.var 13))).seq (E.slit ⟨#[120]⟩)) = true := by
      rw [bT_seq, sev_ite, sev_sof, sev_slit, sev_slit, bev_eq, iev_var, iev_var, iev_var, iev_lit]
      simp only [decide_eq_true_eq]
      exact t2
    refine ⟨t1, fun _ => ⟨[], [], rfl, rfl, ⟨⟨fun _ => 0, fun _ => true, fun _ => .empty, fun _ => .tuple #[], fun _ => Hl.none⟩, ?_, trivial, trivial⟩, ?_⟩⟩
    · show Value.bool (bev q7 _) = .bool true
      rw [hb]
    · show Value.bool (bev q7 _) = .bool true
      rw [hb]
end Go.Proofs.Ytnpepkjfeadbjaa
