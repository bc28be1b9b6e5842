/- Layer 7: law07.do keeps a disk and a reference disk alike, as a contract. Condition: bytes below 256. -/
import Derived.Test.YtdohcabnaihaoaaRfG
set_option linter.unusedSimpArgs false
set_option linter.unusedVariables false
set_option linter.constructorNameAsVariable false
namespace Go.Proofs.Ytdohcabnaihaoaa
open Go Go.Sx

/-! ### What a reference disk's cells hold -/
theorem RefAt.parts {H : Hl} {v : Value} {M : RM} (h : RefAt H v M) : ∃ (a : Nat) (x1 c1 : Int), v = .pointer (some ⟨a, 0, none⟩) ∧ -1 ≤ x1 ∧ H.cell a 0 = some (sv0 x1 M.now.length c1) ∧ H.cell a 4 = some (.bool M.gone) ∧
    ∀ (i : Nat) r, M.now[i]? = some r → 0 ≤ x1 ∧ ∃ b c : Nat, H.cell x1.toNat i = some (.slice (some ⟨b, 0, none⟩) r.length c) ∧ ∀ (j : Nat) z, r[j]? = some z → H.cell b j = some (.int .u8 z) := by
  obtain ⟨a, n, x1, c1, x2, c2, x3, c3, A, B, C, rfl, h⟩ := h
  obtain ⟨l0, l1, _, _⟩ := h.le
  have e := l0 a _ (Hl.one_self _ _)
  have hlen := h.len
  subst hlen
  refine ⟨a, x1, c1, rfl, h.r1.1, ?_, ?_, fun i r hr => ?_⟩
  · unfold Hl.cell; rw [e]; rfl
  · unfold Hl.cell; rw [e]; rfl
  · exact ((RowsO.mono l1 h.now).at h.r1.1 (by omega)).2 i r hr
/-- The fuse is set. -/
theorem RefAt.setFuse {H : Hl} {v : Value} {M : RM} (h : RefAt H v M) {f : Int} (h0 : -1 ≤ f) (h1 : f ≤ 9223372036854775807) : ∃ a : Nat, v = .pointer (some ⟨a, 0, none⟩) ∧ H.wr a 3 1 = true ∧ RefAt (H.put a 3 [.int .i64 f]) v { M with fuse := f } := by
  obtain ⟨a, n, x1, c1, x2, c2, x3, c3, A, B, C, rfl, h⟩ := h
  obtain ⟨l0, _, _, _⟩ := h.le
  have e := l0 a _ (Hl.one_self _ _)
  refine ⟨a, rfl, by unfold Hl.wr; rw [e]; rfl, a, n, x1, c1, x2, c2, x3, c3, A, B, C, rfl, ⟨⟨h.ok.now, h.ok.was, h.ok.wl, h.ok.il, h.ok.n, h0, h1⟩, h.len, h.r1, h.r2, h.r3, h.now, h.was, h.is, h.da, h.db, h.dc, h.dab, h.dac, h.dbc, ?_⟩⟩
  rw [h.hl]
  funext k
  unfold Hl.put
  by_cases hk : k = a
  · subst hk
    rw [if_pos rfl]
    have e2 : hls [rStruct k n x1 c1 x2 c2 x3 c3 M.fuse M.gone, A, B, C] k = some (.cells #[sv0 x1 n c1, sv0 x2 n c2, sv0 x3 n c3, .int .i64 M.fuse, .bool M.gone] 66 (0, 0)) := by rw [← h.hl]; exact e
    have e3 : hls [rStruct k n x1 c1 x2 c2 x3 c3 f M.gone, A, B, C] k = some (.cells #[sv0 x1 n c1, sv0 x2 n c2, sv0 x3 n c3, .int .i64 f, .bool M.gone] 66 (0, 0)) := Hl.un_at_left (Hl.one_self _ _)
    rw [e2]
    exact e3.symm
  · rw [if_neg hk]
    have n1 : ∀ g : Int, ¬ (rStruct a n x1 c1 x2 c2 x3 c3 g M.gone).mem k := fun g hm => hk (Hl.one_mem.1 hm)
    show ((rStruct a n x1 c1 x2 c2 x3 c3 M.fuse M.gone).un _) k = ((rStruct a n x1 c1 x2 c2 x3 c3 f M.gone).un _) k
    rw [Hl.un_at_right (n1 _), Hl.un_at_right (n1 _)]
theorem spec_of_fn2 {P : Program} {s : Sx.Spec} {Γ : List Sx.Spec} (hΓ : ∀ t ∈ Γ, t.OK P)
    (h : ∀ xs Hs Rs, Hs.length = s.own.length → Rs.length = s.rd.length → (∀ (p q : Nat) H K, p ≠ q → Hs[p]? = some H → Hs[q]? = some K → H.dis K) → s.pre xs Hs Rs → ∃ (W : Walk P Γ s.fn) (ρ : Env) (inv : Nat → Env → Prop) (mu : Nat → Env → Nat),
      W.args.map (TV.ev ρ) = xs ∧ Entry ρ W.mem Hs Rs ∧ Path ρ W.path ∧ W.nd.holds ⟨Γ, inv, mu, postOf s xs Hs Rs⟩ (fun _ => 0) ρ) : s.OK P := by
  intro w xs Hs Rs hl1 hl2 hs1 hs2 hd1 hd2 hpre
  obtain ⟨W, ρ, inv, mu, hx, hE, hp, hn⟩ := h xs Hs Rs hl1 hl2 hd1 hpre
  have hm := hE.mrel hs1 hs2 hd2
  have := fn_sound (C := ⟨Γ, inv, mu, postOf s xs Hs Rs⟩) hΓ (dk_ok (C := ⟨Γ, inv, mu, postOf s xs Hs Rs⟩) hΓ) W.ok hm hp hn
  rw [hx] at this
  refine this.mono ?_
  rintro e w' ⟨ρ', mem', r, rfl, hg, hm', hp'⟩
  obtain ⟨gs, f, hl, hok, ⟨ρ2, h2, h3⟩, hpost⟩ := hp' hm'.dis
  refine ⟨ρ2, gs.map (uni ρ' mem'), uni ρ' mem' f, by rw [h2], h3, Turned.of hm' hl hok, ?_⟩
  rw [← h2]; exact hpost

/-! ### do -/
def opV (k i x : Int) (u : Value) : Value := .agg #[.int .u8 k, .int .i64 i, .int .u8 x, u]
def doS : Sx.Spec where
  fn := 20
  own := [.arg 0, .arg 1]
  rd := [10203]
  res := [.one .bool]
  pre := fun xs Hs Rs => ∃ dp rp k i x u bs HD HR R D M, xs = [dp, rp, opV k i x u] ∧ Hs = [HD, HR] ∧ Rs = [R] ∧ DiskAt HD dp D ∧ RefAt HR rp M ∧ Twin D M ∧ RdW R u bs ∧ (∀ b ∈ bs, 0 ≤ b ∧ b < 256) ∧ i ≤ 9223372036854775807
  post := fun xs Hs Rs v Hs' F => ∃ dp rp o HD' HR' D' M', xs = [dp, rp, o] ∧ Hs' = [HD', HR'] ∧ DiskAt HD' dp D' ∧ RefAt HR' rp M' ∧ Twin D' M' ∧ D'.n ≤ 16384 ∧ v = .bool true
def doNd : Nd := .ext (.alloc 12) (.and (.imp (.eq (.var 2) (.lit 0)) (.and (.pre (.call 0 13 [.sv (.one (.int .u8 (.var 4))), .sv (.one (.sl (.var 5) (.var 6) (.var 7) (.var 8)))] [] [.ro 11 [.var 5] false])) (.ext (.call 0 13 [.sv (.one (.int .u8 (.var 4))), .sv (.one (.sl (.var 5) (.var 6) (.var 7) (.var 8)))] [] [.ro 11 [.var 5] false]) (.and (.pre (.call 1 17 [.sv (.one (.hptr (.var 0) (.lit 0))), .sv (.one (.int .i64 (.var 3))), .sv (.one (.sl (.var 13) (.var 14) (.var 15) (.var 16)))] [.hp 9 [] [.var 0] []] [.hp 13 [] [.var 13] []])) (.ext (.call 1 17 [.sv (.one (.hptr (.var 0) (.lit 0))), .sv (.one (.int .i64 (.var 3))), .sv (.one (.sl (.var 13) (.var 14) (.var 15) (.var 16)))] [.hp 9 [] [.var 0] []] [.hp 13 [] [.var 13] []]) (.and (.pre (.call 5 19 [.sv (.one (.hptr (.var 1) (.lit 0))), .sv (.one (.int .i64 (.var 3))), .sv (.one (.sl (.var 13) (.var 14) (.var 15) (.var 16)))] [.hp 10 [] [.var 1] []] [.hp 13 [] [.var 13] []])) (.ext (.call 5 19 [.sv (.one (.hptr (.var 1) (.lit 0))), .sv (.one (.int .i64 (.var 3))), .sv (.one (.sl (.var 13) (.var 14) (.var 15) (.var 16)))] [.hp 10 [] [.var 1] []] [.hp 13 [] [.var 13] []]) (.post [.hp 17 [9] [.var 0] [], .hp 19 [10] [.var 1] [], .ro 11 [.var 5] false, .dead, .hp 13 [] [.var 13] []] (.sv (.one (.bool (.eq (.var 17) (.var 19))))))))))))) (.imp (.not (.eq (.var 2) (.lit 0))) (.and (.imp (.eq (.var 2) (.lit 1)) (.and (.pre (.call 2 13 [.sv (.one (.hptr (.var 0) (.lit 0)))] [.hp 9 [] [.var 0] []] [])) (.ext (.call 2 13 [.sv (.one (.hptr (.var 0) (.lit 0)))] [.hp 9 [] [.var 0] []] []) (.and (.pre (.call 6 15 [.sv (.one (.hptr (.var 1) (.lit 0)))] [.hp 10 [] [.var 1] []] [])) (.ext (.call 6 15 [.sv (.one (.hptr (.var 1) (.lit 0)))] [.hp 10 [] [.var 1] []] []) (.post [.hp 13 [9] [.var 0] [], .hp 15 [10] [.var 1] [], .ro 11 [.var 5] false, .dead] (.sv (.one (.bool (.eq (.var 13) (.var 15))))))))))) (.imp (.not (.eq (.var 2) (.lit 1))) (.and (.imp (.eq (.var 2) (.lit 2)) (.and (.pre (.call 3 13 [.sv (.one (.hptr (.var 0) (.lit 0))), .sv (.one (.int .i64 (.var 3)))] [.hp 9 [] [.var 0] []] [])) (.ext (.call 3 13 [.sv (.one (.hptr (.var 0) (.lit 0))), .sv (.one (.int .i64 (.var 3)))] [.hp 9 [] [.var 0] []] []) (.and (.e (.le (.lit 0) (.var 1))) (.and (.pre (.put 15 10 (.var 1) (.lit 3) [.int .i64 (.ite (.lt (.var 3) (.lit (-1))) (.lit (-1)) (.var 3))])) (.ext (.put 15 10 (.var 1) (.lit 3) [.int .i64 (.ite (.lt (.var 3) (.lit (-1))) (.lit (-1)) (.var 3))]) (.post [.hp 13 [9] [.var 0] [], .hp 15 [10] [.var 1] [], .ro 11 [.var 5] false, .dead] (.sv (.one (.bool .tt)))))))))) (.imp (.not (.eq (.var 2) (.lit 2))) (.and (.imp (.eq (.var 2) (.lit 3)) (.and (.pre (.call 4 13 [.sv (.one (.hptr (.var 0) (.lit 0))), .sv (.one (.sl (.var 5) (.var 6) (.var 7) (.var 8)))] [.hp 9 [] [.var 0] []] [.ro 11 [.var 5] false])) (.ext (.call 4 13 [.sv (.one (.hptr (.var 0) (.lit 0))), .sv (.one (.sl (.var 5) (.var 6) (.var 7) (.var 8)))] [.hp 9 [] [.var 0] []] [.ro 11 [.var 5] false]) (.and (.pre (.call 7 15 [.sv (.one (.hptr (.var 1) (.lit 0))), .sv (.one (.sl (.var 5) (.var 6) (.var 7) (.var 8)))] [.hp 10 [] [.var 1] []] [.ro 11 [.var 5] false])) (.ext (.call 7 15 [.sv (.one (.hptr (.var 1) (.lit 0))), .sv (.one (.sl (.var 5) (.var 6) (.var 7) (.var 8)))] [.hp 10 [] [.var 1] []] [.ro 11 [.var 5] false]) (.post [.hp 13 [9] [.var 0] [], .hp 15 [10] [.var 1] [], .ro 11 [.var 5] false, .dead] (.sv (.one (.bool .tt))))))))) (.imp (.not (.eq (.var 2) (.lit 3))) (.and (.pre (.call 1 13 [.sv (.one (.hptr (.var 0) (.lit 0))), .sv (.one (.int .i64 (.var 3))), .sv (.one (.sl (.var 5) (.var 6) (.var 7) (.var 8)))] [.hp 9 [] [.var 0] []] [.ro 11 [.var 5] false])) (.ext (.call 1 13 [.sv (.one (.hptr (.var 0) (.lit 0))), .sv (.one (.int .i64 (.var 3))), .sv (.one (.sl (.var 5) (.var 6) (.var 7) (.var 8)))] [.hp 9 [] [.var 0] []] [.ro 11 [.var 5] false]) (.and (.pre (.call 5 15 [.sv (.one (.hptr (.var 1) (.lit 0))), .sv (.one (.int .i64 (.var 3))), .sv (.one (.sl (.var 5) (.var 6) (.var 7) (.var 8)))] [.hp 10 [] [.var 1] []] [.ro 11 [.var 5] false])) (.ext (.call 5 15 [.sv (.one (.hptr (.var 1) (.lit 0))), .sv (.one (.int .i64 (.var 3))), .sv (.one (.sl (.var 5) (.var 6) (.var 7) (.var 8)))] [.hp 10 [] [.var 1] []] [.ro 11 [.var 5] false]) (.post [.hp 13 [9] [.var 0] [], .hp 15 [10] [.var 1] [], .ro 11 [.var 5] false, .dead] (.sv (.one (.bool (.eq (.var 13) (.var 15))))))))))))))))))
def doΓ : List Sx.Spec := [fullS, writeWS, syncS, fuseS, crashS, rwriteS, rsyncS, rcrashS]
theorem doΓ_ok : ∀ t ∈ doΓ, t.OK Try.prog := fun t ht => by
  simp only [doΓ, List.mem_cons, List.mem_nil_iff, or_false] at ht
  rcases ht with rfl | rfl | rfl | rfl | rfl | rfl | rfl | rfl
  · exact fullS_ok
  · exact writeWS_ok
  · exact syncS_ok
  · exact fuseS_ok
  · exact crashS_ok
  · exact rwriteS_ok
  · exact rsyncS_ok
  · exact rcrashS_ok
def doW : Walk Try.prog doΓ doS.fn where
  Λ := noLoops
  args := [TP (.var 0) (.lit 0), TP (.var 1) (.lit 0), .sv (.agg [.int .u8 (.var 2), .int .i64 (.var 3), .int .u8 (.var 4), .sl (.var 5) (.var 6) (.var 7) (.var 8)])]
  mem := [.hp 9 [] [.var 0] [], .hp 10 [] [.var 1] [], .ro 11 [.var 5] false]
  nv := 12
  nd := doNd
  ok := by kernel_rfl
theorem og0 : doΓ[0]? = some fullS := rfl
theorem og1 : doΓ[1]? = some writeWS := rfl
theorem og2 : doΓ[2]? = some syncS := rfl
theorem og3 : doΓ[3]? = some fuseS := rfl
theorem og4 : doΓ[4]? = some crashS := rfl
theorem og5 : doΓ[5]? = some rwriteS := rfl
theorem og6 : doΓ[6]? = some rsyncS := rfl
theorem og7 : doΓ[7]? = some rcrashS := rfl
theorem or0 : fullS.res = [.one .sl] := rfl
theorem or1 : writeWS.res = [.one (.int .i64)] := rfl
theorem or2 : syncS.res = [.one (.int .i64)] := rfl
theorem or3 : fuseS.res = [] := rfl
theorem or4 : crashS.res = [] := rfl
theorem or5 : rwriteS.res = [.one (.int .i64)] := rfl
theorem or6 : rsyncS.res = [.one (.int .i64)] := rfl
theorem or7 : rcrashS.res = [] := rfl
theorem oc0 : (cpRoots 0 [Cp.one Ck.sl] ≠ []) = True := by simp [cpRoots, Cp.roots, Ck.root]
theorem wr_post {p u v : Value} {i : Int} {bs : List Int} {H R F : Hl} {K : List Hl} {D : DM} (h1 : DiskAt H p D) (h2 : RdW R u bs) (hp : writeWS.post [p, .int .i64 i, u] [H] [R] v K F) : ∃ H', K = [H'] ∧ DiskAt H' p (writeR D i bs).2 ∧ v = .int .i64 (writeR D i bs).1 := by
  obtain ⟨p', i', u', bs', Hx, Rx, D', H', hx, hH, hR, hD, hB, hK, hD', hv⟩ := hp
  have hx : p = p' ∧ i = i' ∧ u = u' := by simpa using hx
  obtain ⟨rfl, rfl, rfl⟩ := hx
  have hH : H = Hx := by simpa using hH
  have hR : R = Rx := by simpa using hR
  subst hH hR
  have e := h1.uniq hD
  subst e
  have e := h2.uniq hB
  subst e
  exact ⟨H', hK, hD', hv⟩
theorem rwr_post {p u v : Value} {i : Int} {bs : List Int} {H R F : Hl} {K : List Hl} {M : RM} (h1 : RefAt H p M) (h2 : RdW R u bs) (hp : rwriteS.post [p, .int .i64 i, u] [H] [R] v K F) : ∃ H', K = [H'] ∧ RefAt H' p (rwriteR M i bs).2 ∧ v = .int .i64 (rwriteR M i bs).1 := by
  obtain ⟨p', i', u', bs', Hx, Rx, D', H', hx, hH, hR, hD, hB, hK, hD', hv⟩ := hp
  have hx : p = p' ∧ i = i' ∧ u = u' := by simpa using hx
  obtain ⟨rfl, rfl, rfl⟩ := hx
  have hH : H = Hx := by simpa using hH
  have hR : R = Rx := by simpa using hR
  subst hH hR
  have e := h1.uniq hD
  subst e
  have e := h2.uniq hB
  subst e
  exact ⟨H', hK, hD', hv⟩
theorem doS_ok : doS.OK Try.prog := by
  refine spec_of_fn2 (Γ := doΓ) doΓ_ok ?_
  rintro xs Hs Rs hl1 hl2 hdd ⟨dp, rp, k, i, x0, u, bs, HD, HR, R, D, M, rfl, rfl, rfl, hD, hM, ht, hRd, hby, hi⟩
  obtain ⟨x, y, cp, rfl, hy, hR⟩ := id hRd
  obtain ⟨da, s, m, es, clock, hdp, hDi⟩ := id hD
  obtain ⟨ra, _, _, hrp, _⟩ := hM.parts
  have hdis : HD.dis HR := hdd 0 1 HD HR (by decide) rfl rfl
  refine ⟨doW, envI [da, ra, k, i, x0, x, y, bs.length, cp] false [Hl.none, Hl.none, Hl.none, Hl.none, Hl.none, Hl.none, Hl.none, Hl.none, Hl.none, HD, HR, R], fun _ _ => True, fun _ _ => 0, ?_, ⟨?_, ?_, ?_, ?_⟩, (fun _ h => nomatch h), ?_⟩
  · show [Value.pointer (slP (da : Int) 0), Value.pointer (slP (ra : Int) 0), opV k i x0 (.slice (slP x y) ((bs.length : Int)).toNat ((cp : Int)).toNat)] = _
    rw [dArg, dArg, Int.toNat_natCast, Int.toNat_natCast, hdp, hrp]
  · intro r hr ho; simp [doW] at hr
    rcases hr with rfl | rfl | rfl
    · exact ⟨HD, by simp, Hl.le_refl _⟩
    · exact ⟨HR, by simp, Hl.le_refl _⟩
    · cases ho
  · intro r hr ho; simp [doW] at hr
    rcases hr with rfl | rfl | rfl
    · cases ho
    · cases ho
    · exact ⟨R, by simp, Hl.le_refl _⟩
  · refine List.Pairwise.cons (fun r hr _ ho => ?_) (List.Pairwise.cons (fun r hr _ ho => ?_) (List.Pairwise.cons (fun r hr => by cases hr) List.Pairwise.nil))
    · simp only [List.mem_cons, List.mem_nil_iff, or_false] at hr
      rcases hr with rfl | rfl
      · exact hdis
      · cases ho
    · simp only [List.mem_cons, List.mem_nil_iff, or_false] at hr
      subst hr; cases ho
  · intro r hr; simp [doW] at hr; rcases hr with rfl | rfl | rfl <;> trivial
  · show Nd.holds _ _ _ doNd
    generalize hρ : envI [da, ra, k, i, x0, x, y, bs.length, cp] false [Hl.none, Hl.none, Hl.none, Hl.none, Hl.none, Hl.none, Hl.none, Hl.none, Hl.none, HD, HR, R] = ρ
    have v0 : ρ.i 0 = da := by rw [← hρ]; rfl
    have v1 : ρ.i 1 = ra := by rw [← hρ]; rfl
    have v2 : ρ.i 2 = k := by rw [← hρ]; rfl
    have v3 : ρ.i 3 = i := by rw [← hρ]; rfl
    have v4 : ρ.i 4 = x0 := by rw [← hρ]; rfl
    have v5 : ρ.i 5 = x := by rw [← hρ]; rfl
    have v6 : ρ.i 6 = y := by rw [← hρ]; rfl
    have v7 : ρ.i 7 = bs.length := by rw [← hρ]; rfl
    have v8 : ρ.i 8 = cp := by rw [← hρ]; rfl
    have w9 : ρ.h 9 = HD := by rw [← hρ]; rfl
    have w10 : ρ.h 10 = HR := by rw [← hρ]; rfl
    have w11 : ρ.h 11 = R := by rw [← hρ]; rfl
    clear hρ
    have eD : ∀ q, Agree 12 ρ q → Value.pointer (slP (q.i 0) 0) = dp := fun q a => by rw [a.i 0 (by omega), v0, dArg, hdp]
    have eR : ∀ q, Agree 12 ρ q → Value.pointer (slP (q.i 1) 0) = rp := fun q a => by rw [a.i 1 (by omega), v1, dArg, hrp]
    have eU : ∀ q, Agree 12 ρ q → Value.slice (slP (q.i 5) (q.i 6)) (q.i 7).toNat (q.i 8).toNat = .slice (slP x y) bs.length cp := fun q a => by rw [a.i 5 (by omega), a.i 6 (by omega), a.i 7 (by omega), a.i 8 (by omega), v5, v6, v7, v8, Int.toNat_natCast, Int.toNat_natCast]
    have out : ∀ (q : Env) (k1 k2 : Nat) (u1 u2 : List Nat) (t : Mem) (e : E) (D' : DM) (M' : RM), bev q e = true → DiskAt (q.h k1) dp D' → RefAt (q.h k2) rp M' → Twin D' M' →
        postOf doS [dp, rp, opV k i x0 (.slice (slP x y) bs.length cp)] [HD, HR] [R] q (.hp k1 u1 [.var 0] [] :: .hp k2 u2 [.var 1] [] :: t) (.sv (.one (.bool e))) := by
      intro q k1 k2 u1 u2 t e D' M' he h1 h2 h3 _
      refine ⟨[[0], [1]], [], rfl, rfl, ⟨⟨fun _ => 0, fun _ => true, fun _ => .empty, fun _ => .tuple #[], fun _ => Hl.none⟩, by show Value.bool (bev q e) = _; rw [he]; rfl, trivial, trivial⟩, dp, rp, _, _, _, D', M', rfl, rfl, ?_, ?_, h3, h3.ok.n, by show Value.bool (bev q e) = _; rw [he]⟩
      · show DiskAt (hls [q.h k1]) dp D'
        rw [hls_one]; exact h1
      · show RefAt (hls [q.h k2]) rp M'
        rw [hls_one]; exact h2
    unfold doNd
    simp only [Nd.holds, X.pre, X.rel, X.n, Src.ok, Src.len, Src.vals, true_and, and_true, if_true, Nat.mul_one, Nat.add_zero, Nat.reduceAdd, List.length_cons, List.length_nil, bT_tt, bT_ff, bT_bvar, bT_not, bT_and, bT_or, bT_ite, bT_lt, bT_le, bT_eq, bT_beq, bT_seq, bT_hB, bT_his, bT_hby, bT_hism, bT_hks, iev_lit, iev_var, iev_add, iev_sub, iev_mul, iev_wrap, iev_ite, iev_hI, iev_hP, iev_hmlen, sev_ite, sev_slit, sev_sof, sev_svar, TV.ev, SV.ev, CV.ev, List.map_cons, List.map_nil, Res.hl, cpTV, Cp.sv, Ck.cv, cpSVs, Cp.len, Ck.len, newHs_zero, newHs_one, roots_ne, og0, og1, og2, og3, og4, og5, og6, og7, or0, or1, or2, or3, or4, or5, or6, or7, oc0]
    intro q1 g1 _
    have P1 : Agree 12 ρ q1 := g1
    rw [P1.i 2 (by omega), v2]
    have fate : D.loose.length ≤ 1000000 := by
      have := ht.count
      have := cntB_le M.is
      have := ht.mok.il
      have := ht.mok.n
      omega
    refine ⟨fun _ => ?_, fun _ => ⟨fun _ => ?_, fun _ => ⟨fun _ => ?_, fun _ => ⟨fun _ => ?_, fun _ => ?_⟩⟩⟩⟩
    · rw [eU q1 P1, P1.h 11 (by omega), w11]
      refine ⟨⟨_, _, bs, R, rfl, rfl, hRd⟩, fun q2 g2 ⟨F2, ⟨c', u', bs', R', hx, hR', hB', hO⟩, hF2, _⟩ => ?_⟩
      have hx : q1.i 4 = c' ∧ Value.slice (slP x y) bs.length cp = u' := by simpa using hx
      obtain ⟨hx1, hx2⟩ := hx
      have hR' : R = R' := by simpa using hR'
      subst hx2 hR'
      have e := hRd.uniq hB'
      subst e
      rw [← hF2 trivial] at hO
      have P2 : Agree 12 ρ q2 := P1.trans (g2.mono (by omega))
      have hW := hO.rd.w
      rw [eD q2 P2, P2.i 3 (by omega), v3, P2.h 9 (by omega), w9]
      refine ⟨⟨dp, i, _, _, HD, _, D, rfl, rfl, rfl, hD, hW⟩, fun q3 g3 ⟨F3, hp3, _, _⟩ => ?_⟩
      obtain ⟨HD', hK3, hD3, hv3⟩ := wr_post hD hW hp3
      have hK3 : q3.h 17 = HD' := by simpa using hK3
      have hv3 : q3.i 17 = (writeR D i (fullL c' bs)).1 := by simpa using hv3
      have P3 : Agree 12 ρ q3 := P2.trans (g3.mono (by omega))
      have e13 : Value.slice (slP (q3.i 13) (q3.i 14)) (q3.i 15).toNat (q3.i 16).toNat = .slice (slP (q2.i 13) (q2.i 14)) (q2.i 15).toNat (q2.i 16).toNat := by
        rw [g3.i 13 (by omega), g3.i 14 (by omega), g3.i 15 (by omega), g3.i 16 (by omega)]
      rw [eR q3 P3, P3.i 3 (by omega), v3, P3.h 10 (by omega), w10, e13, g3.h 13 (by omega)]
      refine ⟨⟨rp, i, _, _, HR, _, M, rfl, rfl, rfl, hM, hW⟩, fun q4 g4 ⟨F4, hp4, _, _⟩ => ?_⟩
      obtain ⟨HR', hK4, hM4, hv4⟩ := rwr_post hM hW hp4
      have hK4 : q4.h 19 = HR' := by simpa using hK4
      have hv4 : q4.i 19 = (rwriteR M i (fullL c' bs)).1 := by simpa using hv4
      obtain ⟨tw1, tw2⟩ := ht.write i (fullL c' bs)
      refine out q4 17 19 _ _ _ _ _ _ ?_ (by rw [g4.h 17 (by omega), hK3]; exact hD3) (by rw [hK4]; exact hM4) tw2
      rw [bT_eq, iev_var, iev_var, hv4, g4.i 17 (by omega), hv3, tw1]
    · rw [eD q1 P1, P1.h 9 (by omega), w9]
      refine ⟨⟨dp, HD, D, rfl, rfl, hD⟩, fun q2 g2 ⟨F2, ⟨p', H', D', H2, hx, hH, hD', hK, hD2, hv⟩, _, _⟩ => ?_⟩
      have hx : dp = p' := by simpa using hx
      have hH : HD = H' := by simpa using hH
      subst hx hH
      have e := hD.uniq hD'
      subst e
      have hK : q2.h 13 = H2 := by simpa using hK
      have hv : q2.i 13 = (syncR D).1 := by simpa using hv
      have P2 : Agree 12 ρ q2 := P1.trans (g2.mono (by omega))
      rw [eR q2 P2, P2.h 10 (by omega), w10]
      refine ⟨⟨rp, HR, M, rfl, rfl, hM⟩, fun q3 g3 ⟨F3, ⟨p', H', M', H3, hx3, hH3, hM', hK3, hM3, hv3⟩, _, _⟩ => ?_⟩
      have hx3 : rp = p' := by simpa using hx3
      have hH3 : HR = H' := by simpa using hH3
      subst hx3 hH3
      have e := hM.uniq hM'
      subst e
      have hK3 : q3.h 15 = H3 := by simpa using hK3
      have hv3 : q3.i 15 = (rsyncR M).1 := by simpa using hv3
      obtain ⟨tw1, tw2⟩ := ht.sync
      refine out q3 13 15 _ _ _ _ _ _ ?_ (by rw [g3.h 13 (by omega), hK]; exact hD2) (by rw [hK3]; exact hM3) tw2
      rw [bT_eq, iev_var, iev_var, hv3, g3.i 13 (by omega), hv, tw1]
    · rw [eD q1 P1, P1.i 3 (by omega), v3, P1.h 9 (by omega), w9]
      refine ⟨⟨dp, i, HD, D, rfl, rfl, hD, hi⟩, fun q2 g2 ⟨F2, ⟨p', i', H', D', H2, hx, hH, hD', hK, hD2⟩, _, _⟩ => ?_⟩
      have hx : dp = p' ∧ i = i' := by simpa using hx
      obtain ⟨hx1, hx2⟩ := hx
      have hH : HD = H' := by simpa using hH
      subst hx1 hx2 hH
      have e := hD.uniq hD'
      subst e
      have hK : q2.h 13 = H2 := by simpa using hK
      have P2 : Agree 12 ρ q2 := P1.trans (g2.mono (by omega))
      have emax : (if i < -1 then -1 else i) = max i (-1) := by split <;> omega
      obtain ⟨ra', hrp', hwr, hset⟩ := hM.setFuse (f := max i (-1)) (by omega) (by omega)
      have er : ra' = ra := by
        rw [hrp] at hrp'
        simp only [Value.pointer.injEq, Option.some.injEq, Addr.mk.injEq, and_true] at hrp'
        exact hrp'.symm
      subst er
      rw [P2.i 1 (by omega), v1, P2.i 3 (by omega), v3, P2.h 10 (by omega), w10, emax, Int.toNat_natCast]
      refine ⟨by omega, ⟨by omega, by decide, hwr⟩, fun q3 g3 h15 => ?_⟩
      exact out q3 13 15 _ _ _ _ _ _ rfl (by rw [g3.h 13 (by omega), hK]; exact hD2) (by rw [h15]; exact hset) (ht.fused hi)
    · rw [eD q1 P1, eU q1 P1, P1.h 9 (by omega), w9, P1.h 11 (by omega), w11]
      refine ⟨⟨dp, _, bs, HD, R, D, rfl, rfl, rfl, hD, hRd, hby, fate⟩, fun q2 g2 ⟨F2, ⟨p', u', bs', H', R', D', H2, hx, hH, hR', hD', hB', hK, hD2⟩, _, _⟩ => ?_⟩
      have hx : dp = p' ∧ Value.slice (slP x y) bs.length cp = u' := by simpa using hx
      obtain ⟨hx1, hx2⟩ := hx
      have hH : HD = H' := by simpa using hH
      have hR' : R = R' := by simpa using hR'
      subst hx1 hx2 hH hR'
      have e := hD.uniq hD'
      subst e
      have e := hRd.uniq hB'
      subst e
      have hK : q2.h 13 = H2 := by simpa using hK
      have P2 : Agree 12 ρ q2 := P1.trans (g2.mono (by omega))
      rw [eR q2 P2, eU q2 P2, P2.h 10 (by omega), w10, P2.h 11 (by omega), w11]
      refine ⟨⟨rp, _, bs, HR, R, M, rfl, rfl, rfl, hM, hRd, hby⟩, fun q3 g3 ⟨F3, ⟨p', u', bs', H', R', M', H3, hx3, hH3, hR3, hM', hB3, hK3, hM3⟩, _, _⟩ => ?_⟩
      have hx3 : rp = p' ∧ Value.slice (slP x y) bs.length cp = u' := by simpa using hx3
      obtain ⟨hx1, hx2⟩ := hx3
      have hH3 : HR = H' := by simpa using hH3
      have hR3 : R = R' := by simpa using hR3
      subst hx1 hx2 hH3 hR3
      have e := hM.uniq hM'
      subst e
      have e := hRd.uniq hB3
      subst e
      have hK3 : q3.h 15 = H3 := by simpa using hK3
      exact out q3 13 15 _ _ _ _ _ _ rfl (by rw [g3.h 13 (by omega), hK]; exact hD2) (by rw [hK3]; exact hM3) (ht.crash bs)
    · rw [eU q1 P1, P1.h 11 (by omega), w11, eD q1 P1, P1.i 3 (by omega), v3, P1.h 9 (by omega), w9]
      refine ⟨⟨dp, i, _, bs, HD, R, D, rfl, rfl, rfl, hD, hRd⟩, fun q3 g3 ⟨F3, hp3, _, _⟩ => ?_⟩
      obtain ⟨HD', hK3, hD3, hv3⟩ := wr_post hD hRd hp3
      have hK3 : q3.h 13 = HD' := by simpa using hK3
      have hv3 : q3.i 13 = (writeR D i bs).1 := by simpa using hv3
      have P3 : Agree 12 ρ q3 := P1.trans (g3.mono (by omega))
      rw [eR q3 P3, eU q3 P3, P3.i 3 (by omega), v3, P3.h 10 (by omega), w10, P3.h 11 (by omega), w11]
      refine ⟨⟨rp, i, _, bs, HR, R, M, rfl, rfl, rfl, hM, hRd⟩, fun q4 g4 ⟨F4, hp4, _, _⟩ => ?_⟩
      obtain ⟨HR', hK4, hM4, hv4⟩ := rwr_post hM hRd hp4
      have hK4 : q4.h 15 = HR' := by simpa using hK4
      have hv4 : q4.i 15 = (rwriteR M i bs).1 := by simpa using hv4
      obtain ⟨tw1, tw2⟩ := ht.write i bs
      refine out q4 13 15 _ _ _ _ _ _ ?_ (by rw [g4.h 13 (by omega), hK3]; exact hD3) (by rw [hK4]; exact hM4) tw2
      rw [bT_eq, iev_var, iev_var, hv4, g4.i 13 (by omega), hv3, tw1]
end Go.Proofs.Ytdohcabnaihaoaa
