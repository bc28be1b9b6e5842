/- Layer 7: DiskKeeps answers true. No condition. -/
import Derived.Test.YtdohcabnaihaoaaDskK
set_option linter.unusedSimpArgs false
set_option linter.unusedVariables false
set_option linter.constructorNameAsVariable false
namespace Go.Proofs.Ytdohcabnaihaoaa
open Go Go.Sx

theorem sector_putL {D : DM} (h : D.ok) {i : Int} (hi : D.has i = true) {bs : List Int} (hb : bs.length = 64) : (putD D i bs).sector i = bs := by
  have hh : 0 ≤ i ∧ i < D.n := by unfold DM.has at hi; simpa using hi
  show ((splice D.now (64 * i.toNat) bs).drop (64 * i.toNat)).take 64 = bs
  unfold splice
  rw [List.append_assoc, List.drop_left' (by rw [List.length_take, h.now]; omega), List.take_left' hb]
theorem splice_get {l m : List Int} {o : Nat} (h : o + m.length ≤ l.length) (j : Nat) : (splice l o m)[j]? = if j < o then l[j]? else if j < o + m.length then m[j - o]? else l[j]? := by
  unfold splice
  have ht : (l.take o).length = o := by rw [List.length_take]; omega
  rw [List.append_assoc]
  by_cases h1 : j < o
  · rw [if_pos h1, List.getElem?_append_left (by omega), List.getElem?_take, if_pos h1]
  · rw [if_neg h1, List.getElem?_append_right (by omega), ht]
    by_cases h2 : j < o + m.length
    · rw [if_pos h2, List.getElem?_append_left (by omega)]
    · rw [if_neg h2, List.getElem?_append_right (by omega), List.getElem?_drop]
      congr 1; omega
theorem sec_splice {now bs : List Int} {k a : Int} (hb : bs.length = 64) (hk : 64 * k.toNat + 64 ≤ now.length) (h : k.toNat ≠ a.toNat) : secOf (splice now (64 * k.toNat) bs) a = secOf now a := by
  unfold secOf
  apply List.ext_getElem?
  intro j
  rw [List.getElem?_take, List.getElem?_take]
  split
  · rename_i hj
    rw [List.getElem?_drop, List.getElem?_drop, splice_get (by omega)]
    split
    · rfl
    · rw [if_neg (by omega)]
  · rfl
theorem crashN_sec {D : DM} (h : D.ok) (fate ks : List Int) {a : Int} (a0 : 0 ≤ a) (hk : ∀ k ∈ ks, 0 ≤ k ∧ k < D.n ∧ k ≠ a) : ∀ i, i ≤ ks.length → secOf (crashN D.loose fate D.now ks i) a = secOf D.now a
  | 0, _ => rfl
  | i + 1, hi => by
    have hm : ks.getD i 0 ∈ ks := by
      rw [List.getD_eq_getElem?_getD, List.getElem?_eq_getElem (by omega), Option.getD_some]
      exact List.getElem_mem _
    obtain ⟨b0, b1, b2⟩ := hk _ hm
    have hl := crashN_length h fate ks (fun k hk' => ⟨(hk k hk').1, (hk k hk').2.1⟩) i (by omega)
    unfold crashN
    rw [sec_splice (tornI_length _ _ _) (by rw [hl]; omega) (by omega)]
    exact crashN_sec h fate ks a0 hk i (by omega)
structure KeepsAt (a : Int) (X : List Int) (k : Nat) (D : DM) : Prop where
  n : D.n = 12
  fuse : D.fuse = -1
  gone : D.gone = false
  sec : D.sector a = X
  loose : ∀ p ∈ D.loose, p.1 ≠ a
  few : D.loose.length ≤ k
theorem has_of {D : DM} (h : D.n = 12) {i : Int} (h0 : 0 ≤ i) (h1 : i < 12) : D.has i = true := by
  unfold DM.has; rw [h]; exact decide_eq_true ⟨h0, by omega⟩
theorem keeps_write {D : DM} (h : D.n = 12) (hf : D.fuse = -1) (hg : D.gone = false) {i : Int} (h0 : 0 ≤ i) (h1 : i < 12) {bs : List Int} (hb : bs.length = 64) : writeR D i bs = (0, putD D i bs) := by
  unfold writeR
  rw [if_neg (by rw [has_of h h0 h1, hb]; simp), if_neg (by rw [hg]; simp), if_neg (by rw [hf]; omega)]
theorem keeps_step {a : Int} {X : List Int} {k : Nat} {D : DM} (hok : D.ok) (h : KeepsAt a X k D) (a0 : 0 ≤ a) (hk : k < 12) (hne : (k : Int) ≠ a) {bs : List Int} (hb : bs.length = 64) : KeepsAt a X (k + 1) (putD D k bs) := by
  obtain ⟨h1, h2, h3, h4, h5, h6⟩ := h
  refine ⟨h1, ?_, rfl, ?_, fun p hp => ?_, ?_⟩
  · show (if 0 < D.fuse then D.fuse - 1 else D.fuse) = -1
    rw [h2]; rfl
  · show secOf (splice D.now (64 * (k : Int).toNat) bs) a = X
    rw [sec_splice hb (by rw [hok.now, h1]; omega) (by omega)]
    exact h4
  · have hp : p ∈ (if (mapGo (k : Int) (lv D.loose) 0).isSome then D.loose else D.loose ++ [((k : Int), D.sector k)]) := hp
    split at hp
    · exact h5 p hp
    · rcases List.mem_append.1 hp with hp | hp
      · exact h5 p hp
      · rw [List.mem_singleton] at hp; subst hp; exact hne
  · have := @putD_loose D (k : Int) bs
    omega
theorem keeps_crash {a : Int} {X : List Int} {k : Nat} {D : DM} (hok : D.ok) (h : KeepsAt a X k D) (a0 : 0 ≤ a) (a1 : a < 12) (fate : List Int) : readR (crashD D fate) a = (X, 0) := by
  unfold readR
  have hh : (crashD D fate).has a = true := has_of h.n a0 a1
  rw [if_neg (by rw [hh]; simp), if_neg (by show ¬ (false = true); simp)]
  have e : (crashD D fate).sector a = X := by
    show secOf (crashN D.loose fate D.now (sortK (D.loose.map (·.1))) D.loose.length) a = X
    rw [crashN_sec hok fate _ a0 (fun k hk => ?_) _ (by rw [sortK_length, List.length_map]; exact Nat.le_refl _)]
    · exact h.sec
    · obtain ⟨p, hp, rfl⟩ := List.mem_map.1 (sortK_mem.1 hk)
      exact ⟨(hok.loose p hp).2.1, (hok.loose p hp).2.2, h.loose p hp⟩
  rw [e]
def keepsS : Sx.Spec where
  fn := 6
  own := []
  rd := [0, 2]
  res := [.one .bool]
  pre := fun xs Hs Rs => ∃ u1 at_ u3 A Fs R1 R3, xs = [u1, .int .u8 at_, u3] ∧ Rs = [R1, R3] ∧ RdW R1 u1 A ∧ RdW R3 u3 Fs ∧ (∀ b ∈ Fs, 0 ≤ b ∧ b < 256) ∧ 0 ≤ at_ ∧ at_ < 256
  post := fun xs Hs Rs v Hs' F => v = .bool true
def keepsNd : Nd := .and (.pre (.call 6 11 [] [] [])) (.ext (.call 6 11 [] [] []) (.and (.imp (.bvar 11) (.and (.e (.le (.lit 0) (.var 7))) (.and (.imp (.lt (.lit 50) (.var 7)) (.and (.pre (.call 6 12 [] [] [])) (.ext (.call 6 12 [] [] []) (.post [.ro 9 [.var 0] false, .ro 10 [.var 5] false] (.sv (.one (.bool (.bvar 12)))))))) (.imp (.not (.lt (.lit 50) (.var 7))) (.and (.pre (.call 0 12 [.sv (.one (.int .i64 (.lit 12)))] [] [])) (.ext (.call 0 12 [.sv (.one (.int .i64 (.lit 12)))] [] []) (.and (.pre (.call 1 14 [.sv (.one (.int .u8 (.lit 3))), .sv (.one (.sl (.var 0) (.var 1) (.var 2) (.var 3)))] [] [.ro 9 [.var 0] false])) (.ext (.call 1 14 [.sv (.one (.int .u8 (.lit 3))), .sv (.one (.sl (.var 0) (.var 1) (.var 2) (.var 3)))] [] [.ro 9 [.var 0] false]) (.and (.pre (.call 2 18 [.sv (.one (.hptr (.var 12) (.var 13))), .sv (.one (.int .i64 (.wrap .i64 (.rem (.var 4) (.lit 12))))), .sv (.one (.sl (.var 14) (.var 15) (.var 16) (.var 17)))] [.hp 12 [] [.var 12] []] [.hp 14 [] [.var 14] []])) (.ext (.call 2 18 [.sv (.one (.hptr (.var 12) (.var 13))), .sv (.one (.int .i64 (.wrap .i64 (.rem (.var 4) (.lit 12))))), .sv (.one (.sl (.var 14) (.var 15) (.var 16) (.var 17)))] [.hp 12 [] [.var 12] []] [.hp 14 [] [.var 14] []]) (.and (.pre (.call 7 20 [.sv (.one (.hptr (.var 12) (.var 13)))] [.hp 18 [12] [.var 12] []] [])) (.ext (.call 7 20 [.sv (.one (.hptr (.var 12) (.var 13)))] [.hp 18 [12] [.var 12] []] []) (.and (.inv 0 [⟨40, 0, .int .i64 (.lit 0)⟩] [(41, some 20)]) (.havoc 0 0 22 (.and (.imp (.lt (.var 40) (.lit 12)) (.and (.imp (.not (.eq (.var 40) (.wrap .i64 (.rem (.var 4) (.lit 12))))) (.and (.pre (.call 1 42 [.sv (.one (.int .u8 (.wrap .u8 (.var 40)))), .sv (.one (.sl (.lit (-1)) (.lit 0) (.lit 0) (.lit 0)))] [] [.dead])) (.ext (.call 1 42 [.sv (.one (.int .u8 (.wrap .u8 (.var 40)))), .sv (.one (.sl (.lit (-1)) (.lit 0) (.lit 0) (.lit 0)))] [] [.dead]) (.and (.pre (.call 2 46 [.sv (.one (.hptr (.var 12) (.var 13))), .sv (.one (.int .i64 (.var 40))), .sv (.one (.sl (.var 42) (.var 43) (.var 44) (.var 45)))] [.hp 41 [] [.var 12] []] [.hp 42 [] [.var 42] []])) (.ext (.call 2 46 [.sv (.one (.hptr (.var 12) (.var 13))), .sv (.one (.int .i64 (.var 40))), .sv (.one (.sl (.var 42) (.var 43) (.var 44) (.var 45)))] [.hp 41 [] [.var 12] []] [.hp 42 [] [.var 42] []]) (.and (.imp (.not (.eq (.var 46) (.lit 0))) (.post [.ro 9 [.var 0] false, .ro 10 [.var 5] false, .hp 46 [41] [.var 12] [], .hp 14 [] [.var 14] [], .hp 42 [] [.var 42] []] (.sv (.one (.bool .ff))))) (.imp (.eq (.var 46) (.lit 0)) (.back 0 0 [⟨40, 0, .int .i64 (.wrap .i64 (.add (.var 40) (.lit 1)))⟩] [(41, some 46)])))))))) (.imp (.eq (.var 40) (.wrap .i64 (.rem (.var 4) (.lit 12)))) (.back 0 0 [⟨40, 0, .int .i64 (.wrap .i64 (.add (.var 40) (.lit 1)))⟩] [(41, some 41)])))) (.imp (.not (.lt (.var 40) (.lit 12))) (.and (.pre (.call 10 42 [.sv (.one (.hptr (.var 12) (.var 13))), .sv (.one (.sl (.var 5) (.var 6) (.var 7) (.var 8)))] [.hp 41 [] [.var 12] []] [.ro 10 [.var 5] false])) (.ext (.call 10 42 [.sv (.one (.hptr (.var 12) (.var 13))), .sv (.one (.sl (.var 5) (.var 6) (.var 7) (.var 8)))] [.hp 41 [] [.var 12] []] [.ro 10 [.var 5] false]) (.and (.pre (.call 3 44 [.sv (.one (.hptr (.var 12) (.var 13))), .sv (.one (.int .i64 (.wrap .i64 (.rem (.var 4) (.lit 12)))))] [.hp 42 [41] [.var 12] []] [])) (.ext (.call 3 44 [.sv (.one (.hptr (.var 12) (.var 13))), .sv (.one (.int .i64 (.wrap .i64 (.rem (.var 4) (.lit 12)))))] [.hp 42 [41] [.var 12] []] []) (.and (.imp (.eq (.var 18) (.lit 0)) (.and (.imp (.eq (.var 20) (.lit 0)) (.and (.imp (.eq (.var 48) (.lit 0)) (.and (.e (.or (.eq (.var 14) (.lit (-1))) (.and (.le (.lit 0) (.var 14)) (.and (.le (.lit 0) (.var 15)) (.hby 14 (.var 14) (.var 15) (.var 16)))))) (.and (.e (.or (.eq (.var 44) (.lit (-1))) (.and (.le (.lit 0) (.var 44)) (.and (.le (.lit 0) (.var 45)) (.hby 45 (.var 44) (.var 45) (.var 46)))))) (.and (.imp (.seq (.ite (.eq (.var 14) (.lit (-1))) (.slit ⟨#[]⟩) (.sof 14 (.var 14) (.var 15) (.var 16))) (.ite (.eq (.var 44) (.lit (-1))) (.slit ⟨#[]⟩) (.sof 45 (.var 44) (.var 45) (.var 46)))) (.and (.pre (.call 5 49 [.sv (.one (.hptr (.var 12) (.var 13)))] [.hp 44 [42, 41] [.var 12] []] [])) (.ext (.call 5 49 [.sv (.one (.hptr (.var 12) (.var 13)))] [.hp 44 [42, 41] [.var 12] []] []) (.and (.imp (.eq (.var 49) (.lit 0)) (.and (.pre (.call 9 51 [.sv (.one (.hptr (.var 12) (.var 13)))] [.hp 49 [44, 42, 41] [.var 12] []] [])) (.ext (.call 9 51 [.sv (.one (.hptr (.var 12) (.var 13)))] [.hp 49 [44, 42, 41] [.var 12] []] []) (.post [.ro 9 [.var 0] false, .ro 10 [.var 5] false, .hp 51 [49, 44, 42, 41] [.var 12] [], .hp 14 [] [.var 14] [], .hp 45 [] [.var 44] []] (.sv (.one (.bool (.not (.bvar 51))))))))) (.imp (.not (.eq (.var 49) (.lit 0))) (.post [.ro 9 [.var 0] false, .ro 10 [.var 5] false, .hp 49 [44, 42, 41] [.var 12] [], .hp 14 [] [.var 14] [], .hp 45 [] [.var 44] []] (.sv (.one (.bool .ff))))))))) (.imp (.not (.seq (.ite (.eq (.var 14) (.lit (-1))) (.slit ⟨#[]⟩) (.sof 14 (.var 14) (.var 15) (.var 16))) (.ite (.eq (.var 44) (.lit (-1))) (.slit ⟨#[]⟩) (.sof 45 (.var 44) (.var 45) (.var 46))))) (.post [.ro 9 [.var 0] false, .ro 10 [.var 5] false, .hp 44 [42, 41] [.var 12] [], .hp 14 [] [.var 14] [], .hp 45 [] [.var 44] []] (.sv (.one (.bool .ff))))))))) (.imp (.not (.eq (.var 48) (.lit 0))) (.post [.ro 9 [.var 0] false, .ro 10 [.var 5] false, .hp 44 [42, 41] [.var 12] [], .hp 14 [] [.var 14] [], .hp 45 [] [.var 44] []] (.sv (.one (.bool .ff))))))) (.imp (.not (.eq (.var 20) (.lit 0))) (.post [.ro 9 [.var 0] false, .ro 10 [.var 5] false, .hp 44 [42, 41] [.var 12] [], .hp 14 [] [.var 14] [], .hp 45 [] [.var 44] []] (.sv (.one (.bool .ff))))))) (.imp (.not (.eq (.var 18) (.lit 0))) (.post [.ro 9 [.var 0] false, .ro 10 [.var 5] false, .hp 44 [42, 41] [.var 12] [], .hp 14 [] [.var 14] [], .hp 45 [] [.var 44] []] (.sv (.one (.bool .ff)))))))))))))))))))))))))) (.imp (.not (.bvar 11)) (.and (.pre (.call 6 12 [] [] [])) (.ext (.call 6 12 [] [] []) (.post [.ro 9 [.var 0] false, .ro 10 [.var 5] false] (.sv (.one (.bool (.bvar 12))))))))))
def keepsW : Walk Try.prog lawΓ keepsS.fn where
  Λ := fun p => if lp p then some ⟨0, [(12, TI .i64 (.var 40))], [(2, .hp 41 [] [.var 12] [])], 42⟩ else none
  args := [.sv (.one (.sl (.var 0) (.var 1) (.var 2) (.var 3))), TI .u8 (.var 4), .sv (.one (.sl (.var 5) (.var 6) (.var 7) (.var 8)))]
  mem := [.ro 9 [.var 0] false, .ro 10 [.var 5] false]
  nv := 11
  nd := keepsNd
  ok := by kernel_rfl
def keepsInv (a : Int) (X : List Int) (_ : Nat) (q : Env) : Prop := ∃ (k : Nat) (D : DM), q.i 40 = k ∧ k ≤ 12 ∧ DiskAt (q.h 41) (.pointer (slP (q.i 12) (q.i 13))) D ∧ KeepsAt a X k D
theorem DiskAt.ok {H : Hl} {v : Value} {D : DM} (h : DiskAt H v D) : D.ok := by
  obtain ⟨_, _, _, _, _, _, hin⟩ := h
  exact hin.ok
theorem keepsS_ok : keepsS.OK Try.prog := by
  refine Spec.of_fn (Γ := lawΓ) lawΓ_ok ?_
  rintro xs Hs Rs hl1 hl2 ⟨u1, at_, u3, A, Fs, R1, R3, rfl, rfl, ⟨x1, y1, c1, rfl, hy1, hR1⟩, ⟨x3, y3, c3, rfl, hy3, hR3⟩, hFb, n0, n1⟩
  have e0 : Hs = [] := List.length_eq_zero_iff.1 hl1
  subst e0
  obtain ⟨wa, a0, a1⟩ := rem_u8 n0 n1 (c := 12) (by omega) (by omega)
  obtain ⟨a, ha⟩ : ∃ a, a = at_ % 12 := ⟨_, rfl⟩
  rw [← ha] at wa a0 a1
  obtain ⟨Xs, hX⟩ : ∃ Xs, Xs = fullL 3 A := ⟨_, rfl⟩
  have hXl : Xs.length = 64 := by rw [hX]; exact fullL_length _ _
  refine ⟨keepsW, envI [x1, y1, A.length, c1, at_, x3, y3, Fs.length, c3] false (List.replicate 9 Hl.none ++ [R1, R3]), keepsInv a Xs, fun _ q => (12 - q.i 40).toNat, rfl, ⟨?_, ?_, ?_, ?_⟩, (fun _ h => nomatch h), ?_⟩
  · intro r hr ho; simp [keepsW] at hr; rcases hr with rfl | rfl <;> cases ho
  · intro r hr ho
    simp [keepsW] at hr
    rcases hr with rfl | rfl
    · exact ⟨R1, by simp, Hl.le_refl _⟩
    · exact ⟨R3, by simp, Hl.le_refl _⟩
  · simp [keepsW, Res.own]
  · intro r hr; simp [keepsW] at hr; rcases hr with rfl | rfl <;> trivial
  · show Nd.holds _ _ _ keepsNd
    generalize hρ : envI [x1, y1, A.length, c1, at_, x3, y3, Fs.length, c3] false (List.replicate 9 Hl.none ++ [R1, R3]) = ρ
    have v0 : ρ.i 0 = x1 := by rw [← hρ]; rfl
    have v1 : ρ.i 1 = y1 := by rw [← hρ]; rfl
    have v2 : ρ.i 2 = A.length := by rw [← hρ]; rfl
    have v3 : ρ.i 3 = c1 := by rw [← hρ]; rfl
    have v4 : ρ.i 4 = at_ := by rw [← hρ]; rfl
    have v5 : ρ.i 5 = x3 := by rw [← hρ]; rfl
    have v6 : ρ.i 6 = y3 := by rw [← hρ]; rfl
    have v7 : ρ.i 7 = Fs.length := by rw [← hρ]; rfl
    have v8 : ρ.i 8 = c3 := by rw [← hρ]; rfl
    have w9 : ρ.h 9 = R1 := by rw [← hρ]; rfl
    have w10 : ρ.h 10 = R3 := by rw [← hρ]; rfl
    have rA : ∀ q, Agree 11 ρ q → RdW (q.h 9) (.slice (slP (q.i 0) (q.i 1)) (q.i 2).toNat (q.i 3).toNat) A := fun q g => by
      rw [g.h 9 (by omega), g.i 0 (by omega), g.i 1 (by omega), g.i 2 (by omega), g.i 3 (by omega), v0, v1, v2, v3, w9, Int.toNat_natCast, Int.toNat_natCast]
      exact ⟨x1, y1, c1, rfl, hy1, hR1⟩
    have rF : ∀ q, Agree 11 ρ q → RdW (q.h 10) (.slice (slP (q.i 5) (q.i 6)) (q.i 7).toNat (q.i 8).toNat) Fs := fun q g => by
      rw [g.h 10 (by omega), g.i 5 (by omega), g.i 6 (by omega), g.i 7 (by omega), g.i 8 (by omega), v5, v6, v7, v8, w10, Int.toNat_natCast, Int.toNat_natCast]
      exact ⟨x3, y3, c3, rfl, hy3, hR3⟩
    have wq : ∀ q, Agree 11 ρ q → IntKind.i64.wrap ((q.i 4).tmod 12) = a := fun q g => by rw [g.i 4 (by omega), v4, wa]
    unfold keepsNd
    simp only [Nd.holds, X.pre, X.rel, X.n, Src.ok, Src.len, Src.vals, true_and, and_true, if_true, Nat.mul_one, Nat.add_zero, Nat.reduceAdd, List.length_cons, List.length_nil, bT_tt, bT_ff, bT_bvar, bT_not, bT_and, bT_or, bT_ite, bT_lt, bT_le, bT_eq, bT_beq, bT_seq, bT_hB, bT_his, bT_hby, bT_hism, bT_hks, iev_lit, iev_var, iev_rem, iev_quo, iev_add, iev_sub, iev_mul, iev_wrap, iev_ite, iev_hI, iev_hP, iev_hmlen, sev_ite, sev_slit, sev_sof, sev_svar, TV.ev, SV.ev, CV.ev, List.map_cons, List.map_nil, Res.hl, cpTV, Cp.sv, Ck.cv, cpSVs, Cp.len, Ck.len, newHs_zero, newHs_one, roots_ne, cpNorms, cpNorm, ckNorm, lg0, lg1, lg2, lg3, lg4, lg5, lg6, lg7, lg8, lg9, lg10, dc0, dc1, dc3, dr0, dr1, dr2, dr3, dr4, dr5, dr6, dr7, dr8, dr9, dr10, forall_const]
    have yes : ∀ (q : Env) (mem : Mem) (e : E), bev q e = true → postOf keepsS [.slice (slP x1 y1) A.length c1, .int .u8 at_, .slice (slP x3 y3) Fs.length c3] [] [R1, R3] q mem (.sv (.one (.bool e))) := fun q mem e he _ =>
      ⟨[], [], rfl, rfl, ⟨⟨fun _ => 0, fun _ => true, fun _ => .empty, fun _ => .tuple #[], fun _ => Hl.none⟩, by show Value.bool (bev q e) = .bool true; rw [he], trivial, trivial⟩, by show Value.bool (bev q e) = .bool true; rw [he]⟩
    refine ⟨rfl, fun q1 g1 ⟨_, hv1, _⟩ => ⟨fun _ => ⟨?_, fun h50 => ⟨rfl, fun q2 g2 ⟨_, hv2, _⟩ => yes _ _ _ ?_⟩, fun h50 => ?_⟩, fun h => ?_⟩⟩
    · rw [g1.i 7 (by omega), v7]; omega
    · have hv2 : Value.bool (q2.b 12) = .bool true := hv2
      rw [bev_bvar]
      simpa using hv2
    rotate_left
    · refine absurd ?_ h
      have hv1 : Value.bool (q1.b 11) = .bool true := hv1
      simpa using hv1
    have G1 : Agree 11 ρ q1 := g1
    refine ⟨⟨12, rfl⟩, fun q2 g2 ⟨F2, ⟨n', hn, hD2⟩, hF2, _⟩ => ?_⟩
    cases hn
    have hF2 := hF2 (by simp [cpRoots, Cp.roots, Ck.root])
    subst hF2
    have G2 : Agree 11 ρ q2 := G1.trans (g2.mono (by omega))
    refine ⟨⟨3, _, A, _, rfl, rfl, rA q2 G2⟩, fun q3 g3 ⟨F3, ⟨c, u, bs, R, hx, hR, hrd, how⟩, hF3, n14, n15, n16, n17⟩ => ?_⟩
    cases hx; cases hR
    have hF3 := hF3 (by simp [cpRoots, Cp.roots, Ck.root])
    subst hF3
    have e2 := hrd.uniq (rA q2 G2)
    subst e2
    rw [← hX] at how
    have G3 : Agree 11 ρ q3 := G2.trans (g3.mono (by omega))
    have oX : ∀ q, Agree 18 q3 q → RdB (q.h 14) (.slice (slP (q.i 14) (q.i 15)) (q.i 16).toNat (q.i 17).toNat) Xs ∧ -1 ≤ q.i 14 ∧ 0 ≤ q.i 15 ∧ 0 ≤ q.i 16 := fun q g => by
      rw [g.h 14 (by omega), g.i 14 (by omega), g.i 15 (by omega), g.i 16 (by omega), g.i 17 (by omega)]
      exact ⟨how.rd, n14, n15, n16⟩
    have hD3 : DiskAt (q3.h 12) (.pointer (slP (q3.i 12) (q3.i 13))) (newD 12) := by rw [g3.i 12 (by omega), g3.i 13 (by omega), g3.h 12 (by omega)]; exact hD2
    rw [wq q3 G3]
    have nok : (newD 12).ok := hD3.ok
    refine ⟨⟨_, a, _, Xs, _, _, _, rfl, rfl, rfl, hD3, (oX q3 (Agree.refl _ _)).1⟩, fun q4 g4 ⟨_, ⟨p, i', u, bs3, H, R, D, H', hp, hH, hR, hDD, hrd', hH', hD4, hv4⟩, _⟩ => ?_⟩
    cases hp; cases hH; cases hH'; cases hR
    have e := hDD.uniq hD3
    subst e
    have e2 := hrd'.uniq (oX q3 (Agree.refl _ _)).1
    subst e2
    rw [keeps_write rfl rfl rfl a0 a1 hXl] at hv4 hD4
    simp only [Value.int.injEq, true_and] at hv4
    have hD4 : DiskAt (q4.h 18) (.pointer (slP (q4.i 12) (q4.i 13))) (putD (newD 12) a bs3) := by rw [g4.i 12 (by omega), g4.i 13 (by omega)]; exact hD4
    refine ⟨⟨_, _, _, rfl, rfl, hD4⟩, fun q5 g5 ⟨_, ⟨p, H, D, H', hp, hH, hDD, hH', hD5, hv5⟩, _⟩ => ?_⟩
    cases hp; cases hH; cases hH'
    have e := hDD.uniq hD4
    subst e
    have sR : syncR (putD (newD 12) a bs3) = (0, ⟨12, (putD (newD 12) a bs3).now, [], -1, false⟩) := by
      unfold syncR
      rw [if_neg (by show ¬ (false = true); simp), if_neg (by show ¬ ((-1 : Int) = 0); omega)]
      rfl
    rw [sR] at hv5 hD5
    simp only [Value.int.injEq, true_and] at hv5
    have hD5 : DiskAt (q5.h 20) (.pointer (slP (q5.i 12) (q5.i 13))) ⟨12, (putD (newD 12) a bs3).now, [], -1, false⟩ := by rw [g5.i 12 (by omega), g5.i 13 (by omega)]; exact hD5
    refine ⟨⟨0, _, rfl, by omega, hD5, rfl, rfl, rfl, sector_putL nok (has_of rfl a0 a1) hXl, (fun _ h => nomatch h), Nat.le_refl _⟩, fun q g ⟨k, D, hk, hkT, hDq, hK⟩ => ?_⟩
    have g35 : Agree 18 q3 q5 := g4.trans (g5.mono (by omega))
    have Gq : Agree 11 ρ q := (G3.trans (g35.mono (by omega))).trans (g.mono (by omega))
    have aX : Agree 18 q3 q := g35.trans (g.mono (by omega))
    rw [hk, wq q Gq]
    refine ⟨fun hlt => ⟨fun hne => ?_, fun he => ?_⟩, fun hge => ?_⟩
    · refine ⟨⟨_, _, [], Hl.none, rfl, rfl, -1, 0, 0, rfl, by omega, Or.inl rfl⟩, fun q6 g6 ⟨F6, ⟨c, u, bs, R, hx, hR, hrd, how6⟩, hF6, _⟩ => ?_⟩
      cases hx; cases hR
      have hF6 := hF6 (by simp [cpRoots, Cp.roots, Ck.root])
      subst hF6
      obtain ⟨Bs, hB⟩ : ∃ B, B = fullL (IntKind.u8.wrap (k : Int)) bs := ⟨_, rfl⟩
      rw [← hB] at how6
      have hBl : Bs.length = 64 := by rw [hB]; exact fullL_length _ _
      have hD6 : DiskAt (q6.h 41) (.pointer (slP (q6.i 12) (q6.i 13))) D := by rw [g6.i 12 (by omega), g6.i 13 (by omega), g6.h 41 (by omega)]; exact hDq
      have k6 : q6.i 40 = k := by rw [g6.i 40 (by omega), hk]
      rw [k6]
      refine ⟨⟨_, k, _, Bs, _, _, D, rfl, rfl, rfl, hD6, how6.rd⟩, fun q7 g7 ⟨_, ⟨p, i', u, bs7, H, R, DD, H', hp, hH, hR, hDD, hrd', hH', hD7, hv7⟩, _⟩ => ?_⟩
      cases hp; cases hH; cases hH'; cases hR
      have e := hDD.uniq hD6
      subst e
      have e2 := hrd'.uniq how6.rd
      subst e2
      rw [keeps_write hK.n hK.fuse hK.gone (by omega) (by omega) hBl] at hv7 hD7
      simp only [Value.int.injEq, true_and] at hv7
      refine ⟨fun h => absurd hv7 h, fun _ => ?_⟩
      have k7 : q7.i 40 = k := by rw [g7.i 40 (by omega), k6]
      have m40 : (assign q7 [⟨40, 0, .int .i64 (.wrap .i64 (.add (.var 40) (.lit 1)))⟩] [(41, some 46)]).i 40 = k + 1 := by
        show IntKind.i64.wrap (q7.i 40 + 1) = _
        rw [k7]; exact wrap_i64 (by omega) (by omega)
      refine ⟨⟨k + 1, _, by rw [m40]; omega, by omega, ?_, keeps_step hDq.ok hK a0 (by omega) hne hBl⟩, by rw [m40]; omega⟩
      show DiskAt (q7.h 46) (.pointer (slP (q7.i 12) (q7.i 13))) _
      rw [g7.i 12 (by omega), g7.i 13 (by omega)]; exact hD7
    · have m40 : (assign q [⟨40, 0, .int .i64 (.wrap .i64 (.add (.var 40) (.lit 1)))⟩] [(41, some 41)]).i 40 = k + 1 := by
        show IntKind.i64.wrap (q.i 40 + 1) = _
        rw [hk]; exact wrap_i64 (by omega) (by omega)
      exact ⟨⟨k + 1, D, by rw [m40]; omega, by omega, hDq, hK.n, hK.fuse, hK.gone, hK.sec, hK.loose, by have := hK.few; omega⟩, by rw [m40]; omega⟩
    · have hf := hK.few
      refine ⟨⟨_, _, Fs, _, _, D, rfl, rfl, rfl, hDq, rF q Gq, hFb, by omega⟩, fun q6 g6 ⟨_, ⟨p, u, bs5, H, R, DD, H', hp, hH, hR, hDD, hrd', hH', hD6⟩, _⟩ => ?_⟩
      cases hp; cases hH; cases hH'; cases hR
      have e := hDD.uniq hDq
      subst e
      have e2 := hrd'.uniq (rF q Gq)
      subst e2
      have hD6 : DiskAt (q6.h 42) (.pointer (slP (q6.i 12) (q6.i 13))) (crashD DD bs5) := by rw [g6.i 12 (by omega), g6.i 13 (by omega)]; exact hD6
      have G6 : Agree 11 ρ q6 := Gq.trans (g6.mono (by omega))
      rw [wq q6 G6]
      refine ⟨⟨_, a, _, _, rfl, rfl, hD6⟩, fun q7 g7 ⟨F7, ⟨p, i, H, D, H', u, hp, hH, hDD, hH', hD7, hv7, how7⟩, hF7, n44, n45, n46, n47⟩ => ?_⟩
      cases hp; cases hH; cases hH'
      have hF7 := hF7 (by simp [cpRoots, Cp.roots, Ck.root])
      subst hF7
      have e := hDD.uniq hD6
      subst e
      rw [keeps_crash hDq.ok hK a0 a1] at hv7 how7
      have hv7 : [Value.slice (slP (q7.i 44) (q7.i 45)) (q7.i 46).toNat (q7.i 47).toNat, Value.int .i64 (q7.i 48)] = [u, .int .i64 0] := congrArg Array.toList (Value.tuple.inj hv7)
      simp only [List.cons.injEq, Value.int.injEq, true_and, and_true] at hv7
      obtain ⟨hu, h48⟩ := hv7
      subst hu
      have hD7 : DiskAt (q7.h 44) (.pointer (slP (q7.i 12) (q7.i 13))) (crashD DD bs5) := by rw [g7.i 12 (by omega), g7.i 13 (by omega)]; exact hD7
      have a7 : Agree 18 q3 q7 := aX.trans ((g6.mono (by omega)).trans (g7.mono (by omega)))
      obtain ⟨rX, x0, x1', x2'⟩ := oX q7 a7
      have rZ : RdB (q7.h 45) (.slice (slP (q7.i 44) (q7.i 45)) (q7.i 46).toNat (q7.i 47).toNat) bs3 := how7.rd
      have h18 : q7.i 18 = 0 := by rw [g7.i 18 (by omega), g6.i 18 (by omega), g.i 18 (by omega), g5.i 18 (by omega), hv4]
      have h20 : q7.i 20 = 0 := by rw [g7.i 20 (by omega), g6.i 20 (by omega), g.i 20 (by omega), hv5]
      refine ⟨fun _ => ⟨fun _ => ⟨fun _ => ⟨(RdB.text rX x0 x1' x2').1, (RdB.text rZ n44 n45 n46).1, fun _ => ?_, fun h => absurd (text_eqK rX rZ x0 x1' x2' n44 n45 n46) h⟩, fun h => absurd h48 h⟩, fun h => absurd h20 h⟩, fun h => absurd h18 h⟩
      refine ⟨⟨_, _, _, rfl, rfl, hD7⟩, fun q8 g8 ⟨_, ⟨p, H, D, H', hp, hH, hDD, hH', hD8, hv8⟩, _⟩ => ?_⟩
      cases hp; cases hH; cases hH'
      have e := hDD.uniq hD7
      subst e
      simp only [Value.int.injEq, true_and] at hv8
      have hD8 : DiskAt (q8.h 49) (.pointer (slP (q8.i 12) (q8.i 13))) (crashD DD bs5) := by rw [g8.i 12 (by omega), g8.i 13 (by omega)]; exact hD8
      refine ⟨fun _ => ?_, fun h => absurd hv8 h⟩
      refine ⟨⟨_, _, _, rfl, rfl, hD8⟩, fun q9 g9 ⟨_, ⟨p, H, D3, H', hp, hH, hDD, hH', hD9, hv9⟩, _⟩ => ?_⟩
      cases hp; cases hH; cases hH'
      have e := hDD.uniq hD8
      subst e
      have hv9 : Value.bool (q9.b 51) = .bool false := hv9
      simp only [Value.bool.injEq] at hv9
      refine yes _ _ _ ?_
      rw [bev_not, bev_bvar, hv9]; rfl
end Go.Proofs.Ytdohcabnaihaoaa
