/- Layer 7: DiskOwn answers true, of any bytes. No condition. -/
import Derived.Test.YtdohcabnaihaoaaDskE
set_option linter.unusedSimpArgs false
set_option linter.unusedVariables false
set_option linter.constructorNameAsVariable false
namespace Go.Proofs.Ytdohcabnaihaoaa
open Go Go.Sx

def oΓ : List Sx.Spec := dΓ ++ [awakeS]
theorem oΓ_ok : ∀ t ∈ oΓ, t.OK Try.prog := by
  intro t ht
  rcases List.mem_append.1 ht with ht | ht
  · exact dΓ_ok t ht
  · rw [List.mem_singleton] at ht; subst ht; exact awakeS_ok
theorem og0 : oΓ[0]? = some newS := rfl
theorem og1 : oΓ[1]? = some fullS := rfl
theorem og2 : oΓ[2]? = some writeS := rfl
theorem og3 : oΓ[3]? = some readS := rfl
theorem og6 : oΓ[6]? = some awakeS := rfl
theorem dr6 : awakeS.res = [.one .bool] := rfl
def ownS : Sx.Spec where
  fn := 3
  own := []
  rd := [0]
  res := [.one .bool]
  pre := fun xs Hs Rs => ∃ v bs R, xs = [v] ∧ Rs = [R] ∧ RdW R v bs
  post := fun xs Hs Rs v Hs' F => v = .bool true
def ownNd : Nd := .and (.pre (.call 0 5 [.sv (.one (.int .i64 (.lit 2)))] [] [])) (.ext (.call 0 5 [.sv (.one (.int .i64 (.lit 2)))] [] []) (.and (.pre (.call 6 7 [] [] [])) (.ext (.call 6 7 [] [] []) (.and (.imp (.not (.bvar 7)) (.post [.ro 4 [.var 0] false, .hp 5 [] [.var 5] []] (.sv (.one (.bool .ff))))) (.imp (.bvar 7) (.and (.pre (.call 1 8 [.sv (.one (.int .u8 (.lit 5))), .sv (.one (.sl (.var 0) (.var 1) (.var 2) (.var 3)))] [] [.ro 4 [.var 0] false])) (.ext (.call 1 8 [.sv (.one (.int .u8 (.lit 5))), .sv (.one (.sl (.var 0) (.var 1) (.var 2) (.var 3)))] [] [.ro 4 [.var 0] false]) (.and (.e (.or (.eq (.var 8) (.lit (-1))) (.and (.le (.lit 0) (.var 8)) (.and (.le (.lit 0) (.var 9)) (.hby 8 (.var 8) (.var 9) (.var 10)))))) (.and (.pre (.call 2 12 [.sv (.one (.hptr (.var 5) (.var 6))), .sv (.one (.int .i64 (.lit 1))), .sv (.one (.sl (.var 8) (.var 9) (.var 10) (.var 11)))] [.hp 5 [] [.var 5] []] [.hp 8 [] [.var 8] []])) (.ext (.call 2 12 [.sv (.one (.hptr (.var 5) (.var 6))), .sv (.one (.int .i64 (.lit 1))), .sv (.one (.sl (.var 8) (.var 9) (.var 10) (.var 11)))] [.hp 5 [] [.var 5] []] [.hp 8 [] [.var 8] []]) (.and (.inv 0 [⟨14, 0, .int .i64 (.lit 0)⟩] [(15, some 8)]) (.havoc 0 0 14 (.and (.imp (.lt (.var 14) (.lit 64)) (.and (.e (.le (.lit 0) (.var 8))) (.and (.e (.le (.lit 0) (.var 9))) (.and (.e (.le (.lit 0) (.var 14))) (.and (.e (.lt (.var 14) (.var 10))) (.and (.e (.his 15 (.var 8) (.add (.var 9) (.var 14)) 0 (.int .u8))) (.and (.pre (.put 16 15 (.var 8) (.add (.var 9) (.var 14)) [.int .u8 (.wrap .u8 (.add (.hI 15 (.var 8) (.add (.var 9) (.var 14)) 0) (.lit 1)))])) (.ext (.put 16 15 (.var 8) (.add (.var 9) (.var 14)) [.int .u8 (.wrap .u8 (.add (.hI 15 (.var 8) (.add (.var 9) (.var 14)) 0) (.lit 1)))]) (.back 0 0 [⟨14, 0, .int .i64 (.wrap .i64 (.add (.var 14) (.lit 1)))⟩] [(15, some 16)]))))))))) (.imp (.not (.lt (.var 14) (.lit 64))) (.and (.pre (.call 3 16 [.sv (.one (.hptr (.var 5) (.var 6))), .sv (.one (.int .i64 (.lit 1)))] [.hp 12 [5] [.var 5] []] [])) (.ext (.call 3 16 [.sv (.one (.hptr (.var 5) (.var 6))), .sv (.one (.int .i64 (.lit 1)))] [.hp 12 [5] [.var 5] []] []) (.and (.imp (.eq (.var 12) (.lit 0)) (.and (.imp (.eq (.var 20) (.lit 0)) (.and (.e (.or (.eq (.var 16) (.lit (-1))) (.and (.le (.lit 0) (.var 16)) (.and (.le (.lit 0) (.var 17)) (.hby 17 (.var 16) (.var 17) (.var 18)))))) (.and (.imp (.not (.seq (.ite (.eq (.var 16) (.lit (-1))) (.slit ⟨#[]⟩) (.sof 17 (.var 16) (.var 17) (.var 18))) (.ite (.eq (.var 8) (.lit (-1))) (.slit ⟨#[]⟩) (.sof 8 (.var 8) (.var 9) (.var 10))))) (.post [.ro 4 [.var 0] false, .hp 16 [12, 5] [.var 5] [], .hp 15 [] [.var 8] [], .hp 17 [] [.var 16] []] (.sv (.one (.bool .ff))))) (.imp (.seq (.ite (.eq (.var 16) (.lit (-1))) (.slit ⟨#[]⟩) (.sof 17 (.var 16) (.var 17) (.var 18))) (.ite (.eq (.var 8) (.lit (-1))) (.slit ⟨#[]⟩) (.sof 8 (.var 8) (.var 9) (.var 10)))) (.and (.e (.le (.lit 0) (.var 16))) (.and (.e (.le (.lit 0) (.var 17))) (.and (.e (.lt (.lit 0) (.var 18))) (.and (.e (.his 17 (.var 16) (.var 17) 0 (.int .u8))) (.and (.pre (.put 21 17 (.var 16) (.var 17) [.int .u8 (.wrap .u8 (.add (.hI 17 (.var 16) (.var 17) 0) (.lit 1)))])) (.ext (.put 21 17 (.var 16) (.var 17) [.int .u8 (.wrap .u8 (.add (.hI 17 (.var 16) (.var 17) 0) (.lit 1)))]) (.and (.pre (.call 3 22 [.sv (.one (.hptr (.var 5) (.var 6))), .sv (.one (.int .i64 (.lit 1)))] [.hp 16 [12, 5] [.var 5] []] [])) (.ext (.call 3 22 [.sv (.one (.hptr (.var 5) (.var 6))), .sv (.one (.int .i64 (.lit 1)))] [.hp 16 [12, 5] [.var 5] []] []) (.and (.imp (.eq (.var 26) (.lit 0)) (.and (.e (.or (.eq (.var 22) (.lit (-1))) (.and (.le (.lit 0) (.var 22)) (.and (.le (.lit 0) (.var 23)) (.hby 23 (.var 22) (.var 23) (.var 24)))))) (.post [.ro 4 [.var 0] false, .hp 22 [16, 12, 5] [.var 5] [], .hp 15 [] [.var 8] [], .hp 21 [17] [.var 16] [], .hp 23 [] [.var 22] []] (.sv (.one (.bool (.seq (.ite (.eq (.var 22) (.lit (-1))) (.slit ⟨#[]⟩) (.sof 23 (.var 22) (.var 23) (.var 24))) (.ite (.eq (.var 8) (.lit (-1))) (.slit ⟨#[]⟩) (.sof 8 (.var 8) (.var 9) (.var 10)))))))))) (.imp (.not (.eq (.var 26) (.lit 0))) (.post [.ro 4 [.var 0] false, .hp 22 [16, 12, 5] [.var 5] [], .hp 15 [] [.var 8] [], .hp 21 [17] [.var 16] [], .hp 23 [] [.var 22] []] (.sv (.one (.bool .ff)))))))))))))))))) (.imp (.not (.eq (.var 20) (.lit 0))) (.post [.ro 4 [.var 0] false, .hp 16 [12, 5] [.var 5] [], .hp 15 [] [.var 8] [], .hp 17 [] [.var 16] []] (.sv (.one (.bool .ff))))))) (.imp (.not (.eq (.var 12) (.lit 0))) (.post [.ro 4 [.var 0] false, .hp 16 [12, 5] [.var 5] [], .hp 15 [] [.var 8] [], .hp 17 [] [.var 16] []] (.sv (.one (.bool .ff))))))))))))))))))))))
def ownW : Walk Try.prog oΓ ownS.fn where
  Λ := fun p => if p.length > 1 then some ⟨0, [(7, TI .i64 (.var 14))], [(2, .hp 15 [] [.var 8] [])], 16⟩ else none
  args := [.sv (.one (.sl (.var 0) (.var 1) (.var 2) (.var 3)))]
  mem := [.ro 4 [.var 0] false]
  nv := 5
  nd := ownNd
  ok := by kernel_rfl
theorem sector_put {D : DM} (h : D.ok) {i : Int} (hi : D.has i = true) {bs : List Int} (hb : bs.length = 64) : (putD D i bs).sector i = bs := by
  have hh : 0 ≤ i ∧ i < D.n := by unfold DM.has at hi; simpa using hi
  show ((splice D.now (64 * i.toNat) bs).drop (64 * i.toNat)).take 64 = bs
  unfold splice
  rw [List.append_assoc, List.drop_left' (by rw [List.length_take, h.now]; omega), List.take_left' hb]
theorem text_eq {R R' : Hl} {x y l c x' y' l' c' : Int} {bs : List Int} (h : RdB R (.slice (slP x y) l.toNat c.toNat) bs) (h' : RdB R' (.slice (slP x' y') l'.toNat c'.toNat) bs) (hx : -1 ≤ x) (hy : 0 ≤ y) (hl : 0 ≤ l) (hx' : -1 ≤ x') (hy' : 0 ≤ y') (hl' : 0 ≤ l') :
    (if x = -1 then (⟨#[]⟩ : ByteArray) else bytesOf (cellInts R x.toNat y.toNat l.toNat)) = (if x' = -1 then (⟨#[]⟩ : ByteArray) else bytesOf (cellInts R' x'.toNat y'.toNat l'.toNat)) :=
  (h.text hx hy hl).2.trans (h'.text hx' hy' hl').2.symm
def ownInv (_ : Nat) (q : Env) : Prop := ∃ bs : List Int, bs.length = 64 ∧ 0 ≤ q.i 14 ∧ q.i 14 ≤ 64 ∧ OwB (q.h 15) 5 (.slice (slP (q.i 8) (q.i 9)) (q.i 10).toNat (q.i 11).toNat) bs
theorem ownS_ok : ownS.OK Try.prog := by
  refine Spec.of_fn (Γ := oΓ) oΓ_ok ?_
  rintro xs Hs Rs hl1 hl2 ⟨v, bs, R, rfl, rfl, x, y, cp, rfl, hy, hR⟩
  have e0 : Hs = [] := List.length_eq_zero_iff.1 hl1
  subst e0
  refine ⟨ownW, envI [x, y, bs.length, cp] false [Hl.none, Hl.none, Hl.none, Hl.none, R], ownInv, fun _ q => (64 - q.i 14).toNat, ?_, ⟨?_, ?_, ?_, ?_⟩, (fun _ h => nomatch h), ?_⟩
  · show [Value.slice (slP x y) ((bs.length : Int)).toNat ((cp : Int)).toNat] = _
    rw [Int.toNat_natCast, Int.toNat_natCast]
  · intro r hr ho; simp [ownW] at hr; subst hr; cases ho
  · intro r hr ho; simp [ownW] at hr; subst hr; exact ⟨R, by simp, Hl.le_refl _⟩
  · simp [ownW]
  · intro r hr; simp [ownW] at hr; subst hr; trivial
  · show Nd.holds _ _ _ ownNd
    unfold ownNd
    simp only [Nd.holds, X.pre, X.rel, X.n, Src.ok, Src.len, Src.vals, true_and, and_true, if_true, Nat.mul_one, Nat.add_zero, Nat.reduceAdd, List.length_cons, List.length_nil, bT_tt, bT_ff, bT_bvar, bT_not, bT_and, bT_or, bT_ite, bT_lt, bT_le, bT_eq, bT_beq, bT_seq, bT_hB, bT_his, bT_hby, bT_hism, iev_lit, iev_var, iev_add, iev_sub, iev_mul, iev_wrap, iev_ite, iev_hI, iev_hP, iev_hmlen, sev_ite, sev_slit, sev_sof, sev_svar, TV.ev, SV.ev, CV.ev, List.map_cons, List.map_nil, Res.hl, cpTV, Cp.sv, Ck.cv, cpSVs, Cp.len, Ck.len, newHs_zero, newHs_one, roots_ne, cpNorms, cpNorm, ckNorm, og0, og1, og2, og3, og6, dc0, dc1, dc3, dr0, dr1, dr2, dr3, dr6, forall_const]
    have yes : ∀ (q : Env) (mem : Mem) (e : E), bev q e = true → postOf ownS [.slice (slP x y) bs.length cp] [] [R] q mem (.sv (.one (.bool e))) := fun q mem e he _ =>
      ⟨[], [], rfl, rfl, ⟨⟨fun _ => 0, fun _ => true, fun _ => .empty, fun _ => .tuple #[], fun _ => Hl.none⟩, by show Value.bool (bev q e) = .bool true; rw [he], trivial, trivial⟩, by show Value.bool (bev q e) = .bool true; rw [he]⟩
    refine ⟨⟨2, rfl⟩, fun q1 g1 ⟨F1, ⟨n, hn, hD⟩, hF1, _⟩ => ?_⟩
    cases hn
    have hF1 := hF1 (by simp [cpRoots, Cp.roots, Ck.root])
    subst hF1
    refine ⟨rfl, fun q2 g2 ⟨_, haw, _⟩ => ⟨fun h => ?_, fun _ => ?_⟩⟩
    · have haw : Value.bool (q2.b 7) = .bool true := haw
      simp only [Value.bool.injEq] at haw
      exact absurd haw h
    · have a0 : q2.i 0 = x := by rw [g2.i 0 (by omega), g1.i 0 (by omega)]; rfl
      have a1 : q2.i 1 = y := by rw [g2.i 1 (by omega), g1.i 1 (by omega)]; rfl
      have a2 : q2.i 2 = bs.length := by rw [g2.i 2 (by omega), g1.i 2 (by omega)]; rfl
      have a3 : q2.i 3 = cp := by rw [g2.i 3 (by omega), g1.i 3 (by omega)]; rfl
      have a4 : q2.h 4 = R := by rw [g2.h 4 (by omega), g1.h 4 (by omega)]; rfl
      have hrd : RdW (q2.h 4) (.slice (slP (q2.i 0) (q2.i 1)) (q2.i 2).toNat (q2.i 3).toNat) bs := by
        rw [a0, a1, a2, a3, a4, Int.toNat_natCast, Int.toNat_natCast]; exact ⟨x, y, cp, rfl, hy, hR⟩
      refine ⟨⟨5, _, bs, _, rfl, rfl, hrd⟩, fun q3 g3 ⟨F3, ⟨c, u, bs', R', hx, hR', hrd', how⟩, hF3, n8, n9, n10, n11⟩ => ?_⟩
      cases hx; cases hR'
      have hF3 := hF3 (by simp [cpRoots, Cp.roots, Ck.root])
      subst hF3
      have eb := hrd'.uniq hrd
      subst eb
      have hB : (fullL 5 bs').length = 64 := fullL_length _ _
      generalize hBd : fullL 5 bs' = B at how hB
      have hD3 : DiskAt (q3.h 5) (.pointer (slP (q3.i 5) (q3.i 6))) (newD 2) := by
        rw [g3.h 5 (by omega), g3.i 5 (by omega), g3.i 6 (by omega), g2.h 5 (by omega), g2.i 5 (by omega), g2.i 6 (by omega)]; exact hD
      have hw : writeR (newD 2) 1 B = (0, putD (newD 2) 1 B) := by
        unfold writeR
        rw [if_neg (by rw [hB]; decide), if_neg (by decide), if_neg (by decide)]
      refine ⟨(how.rd.text n8 n9 n10).1, ⟨_, 1, _, _, _, _, _, rfl, rfl, rfl, hD3, how.rd⟩, fun q4 g4 ⟨_, ⟨p, i, u, bs2, H, R2, D, H', hp, hH, hR2, hDD, hrd2, hH', hD4, hv4⟩, _⟩ => ?_⟩
      cases hp; cases hH; cases hH'; cases hR2
      have e := hDD.uniq hD3
      subst e
      have e2 := hrd2.uniq how.rd
      subst e2
      rw [hw] at hv4 hD4
      simp only [Value.int.injEq, true_and] at hv4
      have s4 : ∀ q, Agree 12 q3 q → ∀ H, H = q3.h 8 → OwB H 5 (.slice (slP (q.i 8) (q.i 9)) (q.i 10).toNat (q.i 11).toNat) bs2 := by
        intro q g H hH
        rw [hH, g.i 8 (by omega), g.i 9 (by omega), g.i 10 (by omega), g.i 11 (by omega)]; exact how
      refine ⟨⟨bs2, hB, by show (0 : Int) ≤ 0; omega, by show (0 : Int) ≤ 64; omega, s4 q4 g4 _ (g4.h 8 (by omega))⟩, fun q5 g5 ⟨xs, hxs, h140, h1464, how5⟩ => ?_⟩
      have k8 : q5.i 8 = q3.i 8 := by rw [g5.i 8 (by omega), g4.i 8 (by omega)]
      have k9 : q5.i 9 = q3.i 9 := by rw [g5.i 9 (by omega), g4.i 9 (by omega)]
      have k10 : q5.i 10 = q3.i 10 := by rw [g5.i 10 (by omega), g4.i 10 (by omega)]
      have hl5 : q5.i 10 = 64 := by
        have := (RdB.at (x := q5.i 8) (y := q5.i 9) (l := q5.i 10) (c := q5.i 11) how5.rd (by omega) (by omega) (by omega)).1
        omega
      refine ⟨fun hlt => ?_, fun hge => ?_⟩
      · obtain ⟨w0, w1, w2, w3⟩ := how5.write (by omega) (by omega) (j := (q5.i 14).toNat) (by omega) (IntKind.u8.wrap (valI ((q5.h 15).cell (q5.i 8).toNat ((q5.i 9 + q5.i 14).toNat + 0)) + 1))
        have ea : (q5.i 9 + q5.i 14).toNat = (q5.i 9).toNat + (q5.i 14).toNat := by omega
        refine ⟨w0, by omega, h140, by omega, by rw [ea, w2]; rfl, ⟨w0, by omega, by rw [ea]; exact w1⟩, fun q6 g6 hq6 => ?_⟩
        have m14 : q6.i 14 = q5.i 14 := g6.i 14 (by omega)
        have w : IntKind.i64.wrap (q6.i 14 + 1) = q5.i 14 + 1 := by rw [m14]; exact wrap_i64 (by omega) (by omega)
        refine ⟨⟨xs.set (q5.i 14).toNat (IntKind.u8.wrap (valI ((q5.h 15).cell (q5.i 8).toNat ((q5.i 9 + q5.i 14).toNat + 0)) + 1)), by rw [List.length_set]; exact hxs, ?_, ?_, ?_⟩, ?_⟩
        · show 0 ≤ IntKind.i64.wrap (q6.i 14 + 1); omega
        · show IntKind.i64.wrap (q6.i 14 + 1) ≤ 64; omega
        · show OwB (q6.h 16) _ (.slice (slP (q6.i 8) (q6.i 9)) (q6.i 10).toNat (q6.i 11).toNat) _
          rw [hq6, g6.i 8 (by omega), g6.i 9 (by omega), g6.i 10 (by omega), g6.i 11 (by omega), ea]
          rw [ea] at w3
          exact w3
        · show (64 - IntKind.i64.wrap (q6.i 14 + 1)).toNat < _; omega
      · have hD5 : DiskAt (q5.h 12) (.pointer (slP (q5.i 5) (q5.i 6))) (putD (newD 2) 1 bs2) := by
          rw [g5.h 12 (by omega), g5.i 5 (by omega), g5.i 6 (by omega), g4.i 5 (by omega), g4.i 6 (by omega)]; exact hD4
        obtain ⟨nok, hnn⟩ : (newD 2).ok ∧ (newD 2).has 1 = true := by
          obtain ⟨_, _, _, _, _, _, hin⟩ := hD
          exact ⟨hin.ok, by decide⟩
        have hr : readR (putD (newD 2) 1 bs2) 1 = (bs2, 0) := by
          unfold readR
          rw [sector_put nok hnn hB]
          rfl
        refine ⟨⟨_, 1, _, _, rfl, rfl, hD5⟩, fun q6 g6 ⟨F6, ⟨p, i, H, D, H', u, hp, hH, hDD, hH', hD6, hv6, how6⟩, hF6, n16, n17, n18, n19⟩ => ?_⟩
        cases hp; cases hH; cases hH'
        have hF6 := hF6 (by simp [cpRoots, Cp.roots, Ck.root])
        subst hF6
        have e := hDD.uniq hD5
        subst e
        rw [hr] at hv6 how6
        have hv6 : [Value.slice (slP (q6.i 16) (q6.i 17)) (q6.i 18).toNat (q6.i 19).toNat, Value.int .i64 (q6.i 20)] = [u, .int .i64 0] := congrArg Array.toList (Value.tuple.inj hv6)
        simp only [List.cons.injEq, Value.int.injEq, true_and, and_true] at hv6
        obtain ⟨hu, h20⟩ := hv6
        subst hu
        have G : Agree 12 q3 q6 := (g4.trans (g5.mono (by omega))).trans (g6.mono (by omega))
        have v12 : q6.i 12 = 0 := by rw [g6.i 12 (by omega), g5.i 12 (by omega)]; exact hv4
        have t8 : ∀ q, Agree 12 q3 q → RdB (q.h 8) (.slice (slP (q.i 8) (q.i 9)) (q.i 10).toNat (q.i 11).toNat) bs2 ∧ -1 ≤ q.i 8 ∧ 0 ≤ q.i 9 ∧ 0 ≤ q.i 10 := by
          intro q g
          rw [g.h 8 (by omega), g.i 8 (by omega), g.i 9 (by omega), g.i 10 (by omega), g.i 11 (by omega)]
          exact ⟨how.rd, n8, n9, n10⟩
        obtain ⟨r8, b8, b9, b10⟩ := t8 q6 G
        have r17 : RdB (q6.h 17) (.slice (slP (q6.i 16) (q6.i 17)) (q6.i 18).toNat (q6.i 19).toNat) bs2 := how6.rd
        have l18 : q6.i 18 = 64 := by
          have := (RdB.at (x := q6.i 16) (y := q6.i 17) (l := q6.i 18) (c := q6.i 19) r17 n16 n17 n18).1
          omega
        have how6' : OwB (q6.h 17) 5 (.slice (slP (q6.i 16) (q6.i 17)) (q6.i 18).toNat (q6.i 19).toNat) bs2 := how6
        obtain ⟨w0, w1, w2, w3⟩ := how6'.write n16 n17 (j := 0) (by omega) 0
        refine ⟨fun _ => ⟨fun _ => ⟨(r17.text n16 n17 n18).1, fun hne => absurd (text_eq r17 r8 n16 n17 n18 b8 b9 b10) hne, fun _ => ⟨w0, n17, by omega, by rw [Nat.add_zero] at w2; rw [w2]; rfl, ⟨w0, n17, w1⟩, fun q7 g7 hq7 => ?_⟩⟩, fun h => absurd h20 h⟩, fun h => absurd v12 h⟩
        have hD7 : DiskAt (q7.h 16) (.pointer (slP (q7.i 5) (q7.i 6))) (putD (newD 2) 1 bs2) := by
          rw [g7.h 16 (by omega), g7.i 5 (by omega), g7.i 6 (by omega), g6.i 5 (by omega), g6.i 6 (by omega)]; exact hD6
        refine ⟨⟨_, 1, _, _, rfl, rfl, hD7⟩, fun q8 g8 ⟨F8, ⟨p, i, H, D, H', u, hp, hH, hDD, hH', hD8, hv8, how8⟩, hF8, n22, n23, n24, n25⟩ => ?_⟩
        cases hp; cases hH; cases hH'
        have hF8 := hF8 (by simp [cpRoots, Cp.roots, Ck.root])
        subst hF8
        have e := hDD.uniq hD7
        subst e
        rw [hr] at hv8 how8
        have hv8 : [Value.slice (slP (q8.i 22) (q8.i 23)) (q8.i 24).toNat (q8.i 25).toNat, Value.int .i64 (q8.i 26)] = [u, .int .i64 0] := congrArg Array.toList (Value.tuple.inj hv8)
        simp only [List.cons.injEq, Value.int.injEq, true_and, and_true] at hv8
        obtain ⟨hu, h26⟩ := hv8
        subst hu
        have r23 : RdB (q8.h 23) (.slice (slP (q8.i 22) (q8.i 23)) (q8.i 24).toNat (q8.i 25).toNat) bs2 := how8.rd
        obtain ⟨r8', b8', b9', b10'⟩ := t8 q8 ((G.trans (g7.mono (by omega))).trans (g8.mono (by omega)))
        refine ⟨fun _ => ⟨(r23.text n22 n23 n24).1, yes q8 _ _ ?_⟩, fun h => absurd h26 h⟩
        simp only [bT_tt, bT_ff, bT_bvar, bT_not, bT_and, bT_or, bT_ite, bT_lt, bT_le, bT_eq, bT_beq, bT_seq, bT_hB, bT_his, bT_hby, bT_hism, iev_lit, iev_var, iev_add, iev_sub, iev_mul, iev_wrap, iev_ite, iev_hI, iev_hP, iev_hmlen, sev_ite, sev_slit, sev_sof, sev_svar]
        exact text_eq r23 r8' n22 n23 n24 b8' b9' b10'
end Go.Proofs.Ytdohcabnaihaoaa
