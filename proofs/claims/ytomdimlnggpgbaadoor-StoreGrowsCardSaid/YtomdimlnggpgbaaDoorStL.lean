/- Layer 9: law09.awake, as a contract. No condition. -/
import Derived.Test.YtomdimlnggpgbaaDoorStK
set_option linter.unusedSimpArgs false
set_option linter.unusedVariables false
set_option linter.constructorNameAsVariable false
namespace Go.Proofs.YtomdimlnggpgbaaDoor
open Go Go.Sx Go.Pk
open Go.Proofs.YtomdimlnggpgbaaDoor.D hiding envI noLoops numS

def z16 : List Int := List.replicate 16 0
/-- A new disk's store. -/
theorem sOpen_new {m : Nat} (h : 6 ≤ m ∧ m ≤ 16384) : sOpenE (newD m) = 0 ∧ sOpen (newD m) = mkS ⟨0, 64 * (((m / 2 : Nat) : Int) - 2), 0, 0, z16, false⟩ [] ⟨((m / 2 : Nat) : Int), 64 * (((m / 2 : Nat) : Int) - 2), 0, 0, z16, false⟩ [] := by
  have hs : (newD m).n = m := by
    show sects m = m
    unfold sects; omega
  have h1 : Holds (newD m) 0 ((m / 2 : Nat) : Int) 0 [] (List.replicate 16 0) := newD_holds (by omega) (by omega) (by omega)
  have h2 : Holds (newD m) (m / 2) ((m / 2 : Nat) : Int) 0 [] (List.replicate 16 0) := newD_holds (by omega) (by omega) (by omega)
  have e1 : lowL (newD m) = ⟨0, 64 * (((m / 2 : Nat) : Int) - 2), 0, 0, z16, false⟩ := by unfold lowL; rw [hs]; exact h1.openL
  have e2 : highL (newD m) = ⟨((m / 2 : Nat) : Int), 64 * (((m / 2 : Nat) : Int) - 2), 0, 0, z16, false⟩ := by unfold highL; rw [hs]; exact h2.openL
  have e3 : lowB (newD m) = [] := by unfold lowB; rw [hs]; exact h1.openB
  have e4 : highB (newD m) = [] := by unfold highB; rw [hs]; exact h2.openB
  refine ⟨?_, ?_⟩
  · unfold sOpenE
    rw [hs, if_neg (by omega)]; rfl
  · unfold sOpen
    rw [e1, e2, e3, e4, if_neg (by show ¬ bigI _ < bigI _; exact Int.lt_irrefl _)]
theorem newD_bytes (n : Int) : bytes256 (newD n).now := fun z hz => by
  have := (List.mem_replicate.1 (show z ∈ List.replicate (64 * sects n) 0 from hz)).2
  subst this
  decide
theorem numC_zero : numC 0 = 0 := rfl
/-- What is added where there's room. -/
theorem addR_ok {D : DM} {S : SM} {rows : List (List Int)} (ho : S.over = false) (hk : packOk rows) (hne : rows ≠ []) (hr : ((packB rows).length : Int) ≤ S.LA.most - S.bA.length) (he : (appendR D S.LA S.bA (packB rows) S.LA.note).e = 0) :
    (addR D S rows).e = 0 ∧ (addR D S rows).D = (appendR D S.LA S.bA (packB rows) S.LA.note).D ∧ (addR D S rows).S = ⟨(appendR D S.LA S.bA (packB rows) S.LA.note).L, (appendR D S.LA S.bA (packB rows) S.LA.note).bs, S.LB, S.bB, S.recs ++ rows, false⟩ := by
  have e : addR D S rows = addD D S rows (appendR D S.LA S.bA (packB rows) S.LA.note) := by
    unfold addR
    rw [if_neg (by rw [ho]; simp), if_neg (fun h => h hk), if_neg hne, if_neg (by omega)]
  rw [e]
  unfold addD
  rw [he, numC_zero, if_pos rfl, if_neg (fun h => h.1 rfl), ho]
  exact ⟨rfl, rfl, rfl⟩
noncomputable def lwΓ : List Sx.Spec := [newS, sopenS, sroomS, addS, srecS, rsameS, fullS, writeWS, sgenS]
theorem lwΓ_ok : ∀ t ∈ lwΓ, t.OK Tryd.prog := fun t ht => by
  simp only [lwΓ, List.mem_cons, List.mem_nil_iff, or_false] at ht
  rcases ht with rfl | rfl | rfl | rfl | rfl | rfl | rfl | rfl | rfl
  · exact newS_ok
  · exact sopenS_ok
  · exact sroomS_ok
  · exact addS_ok
  · exact srecS_ok
  · exact rsameS_ok
  · exact fullS_ok
  · exact writeWS_ok
  · exact sgenS_ok
theorem lwr0 : newS.res = [.one .ptr] := rfl
theorem lwr1 : sopenS.res = [.one .ptr, .one (.int .i64)] := rfl
theorem lwr2 : sroomS.res = [.one (.int .i64)] := rfl
theorem lwr3 : addS.res = [.one (.int .i64)] := rfl
theorem lwr4 : srecS.res = [.one .sl] := rfl
theorem lwr5 : rsameS.res = [.one .bool] := rfl
theorem lwr6 : fullS.res = [.one .sl] := rfl
theorem lwr7 : writeWS.res = [.one (.int .i64)] := rfl
theorem lwr8 : sgenS.res = [.one (.int .u64)] := rfl
theorem new_post {n : Int} {v : Value} {F : Hl} {K : List Hl} (hp : newS.post [.int .i64 n] [] [] v K F) : DiskAt F v (newD n) := by
  obtain ⟨n1, hx1, hD1⟩ := hp
  have hx1 : n = n1 := by simpa using hx1
  subst hx1
  exact hD1
theorem sopen_post {dp v : Value} {H H' F : Hl} {D : DM} (hD : DiskAt H dp D) (hp : sopenS.post [dp] [H] [] v [H'] F) : ∃ pv, DiskAt H' dp D ∧ v = .tuple #[pv, .int .i64 (sOpenE D)] ∧ (sOpenE D = 0 → StoreAt F pv dp (sOpen D)) ∧ (sOpenE D ≠ 0 → pv = .pointer none) := by
  obtain ⟨dp', Hx, D', H2, pv, e1, e2, hD', e3, hD2, hv, h1, h2⟩ := hp
  simp only [List.cons.injEq, and_true] at e1 e2 e3
  subst e1 e2 e3
  obtain rfl := hD'.uniq hD
  exact ⟨pv, hD2, hv, h1, h2⟩
theorem add_post {p u dp v : Value} {H HD H' HD' R RA RG F : Hl} {S : SM} {D : DM} {rows : List (List Int)} (h1 : StoreAt H p dp S) (h2 : DiskAt HD dp D) (h3 : RowsB R RA u rows) (hp : addS.post [p, u] [H, HD] [R, RA, RG] v [H', HD'] F) :
    DiskAt HD' dp (addR D S rows).D ∧ StoreAt H' p dp (addR D S rows).S ∧ v = .int .i64 (addR D S rows).e := by
  obtain ⟨p', u', Hx, HDx, Rx, RAx, RGx, dp', S', D', rows', H2, HD2, e1, e2, e3, k1, k2, k3, e4, k4, k5, hv⟩ := hp
  simp only [List.cons.injEq, and_true] at e1 e2 e3 e4
  obtain ⟨a1, a2⟩ := e1
  obtain ⟨a3, a4⟩ := e2
  obtain ⟨a5, a6, a7⟩ := e3
  obtain ⟨a8, a9⟩ := e4
  subst a1 a2 a3 a4 a5 a6 a7 a8 a9
  obtain ⟨rfl, rfl⟩ := h1.rd.uniq k1.rd
  obtain rfl := h2.uniq k2
  obtain rfl := h3.uniq k3
  exact ⟨k4, k5, hv⟩
theorem StoreAt.ne {H : Hl} {x y : Int} {dp : Value} {S : SM} (h : StoreAt H (.pointer (slP x y)) dp S) : x ≠ -1 := by
  obtain ⟨a, _, _, _, _, _, _, he, _⟩ := h
  intro hx
  rw [hx, slP_nil] at he
  cases he
theorem RowsR.lenI {F : Hl} {x y l c : Int} {rows : List (List Int)} (h : RowsR F (.slice (slP x y) l.toNat c.toNat) rows) (hl : 0 ≤ l) : l = rows.length := by
  obtain ⟨_, _, _, e⟩ := h.rep
  simp only [Value.slice.injEq] at e
  omega
/-! ### awake -/
def awakeS : Sx.Spec where
  fn := 8
  own := []
  rd := [2000000]
  res := [.one .bool]
  pre := fun xs Hs Rs => ∃ R g, xs = [] ∧ Rs = [R] ∧ Gl R g
  post := fun xs Hs Rs v Hs' F => v = .bool true
def awakeNd : Nd := .and (.pre (.call 0 1 [.sv (.one (.int .i64 (.lit 6)))] [] [])) (.ext (.call 0 1 [.sv (.one (.int .i64 (.lit 6)))] [] []) (.and (.pre (.call 1 3 [.sv (.one (.hptr (.var 1) (.var 2)))] [.hp 1 [] [.var 1] []] [])) (.ext (.call 1 3 [.sv (.one (.hptr (.var 1) (.var 2)))] [.hp 1 [] [.var 1] []] []) (.and (.imp (.eq (.var 5) (.lit 0)) (.and (.imp (.not (.eq (.var 3) (.lit (-1)))) (.and (.pre (.call 2 6 [.sv (.one (.hptr (.var 3) (.var 4)))] [] [.hp 4 [] [.var 3] [.var 1]])) (.ext (.call 2 6 [.sv (.one (.hptr (.var 3) (.var 4)))] [] [.hp 4 [] [.var 3] [.var 1]]) (.and (.imp (.eq (.var 6) (.lit 64)) (.ext (.alloc 7) (.ext (.cbs 8 7 [.int .u8 (.lit 120)] 5) (.ext (.alloc 9) (.and (.pre (.call 3 10 [.sv (.one (.hptr (.var 3) (.var 4))), .sv (.one (.sl (.var 9) (.lit 0) (.lit 1) (.lit 1)))] [.hp 4 [] [.var 3] [.var 1], .hp 3 [1] [.var 1] []] [.blk 9 [.sl (.var 7) (.lit 0) (.lit 1) (.lit 1)] 30, .hp 8 [] [.var 7] [], .ro 0 [.lit 0, .lit 1, .lit 2] false])) (.ext (.call 3 10 [.sv (.one (.hptr (.var 3) (.var 4))), .sv (.one (.sl (.var 9) (.lit 0) (.lit 1) (.lit 1)))] [.hp 4 [] [.var 3] [.var 1], .hp 3 [1] [.var 1] []] [.blk 9 [.sl (.var 7) (.lit 0) (.lit 1) (.lit 1)] 30, .hp 8 [] [.var 7] [], .ro 0 [.lit 0, .lit 1, .lit 2] false]) (.and (.imp (.eq (.var 10) (.lit 0)) (.and (.pre (.call 4 13 [.sv (.one (.hptr (.var 3) (.var 4)))] [] [.hp 10 [4] [.var 3] [.var 1]])) (.ext (.call 4 13 [.sv (.one (.hptr (.var 3) (.var 4)))] [] [.hp 10 [4] [.var 3] [.var 1]]) (.and (.e (.le (.lit 0) (.var 15))) (.post [.ro 0 [.lit 0, .lit 1, .lit 2] false, .hp 11 [3, 1] [.var 1] [], .hp 10 [4] [.var 3] [.var 1], .hp 8 [] [.var 7] [], .dead, .hp 13 [] [.var 13] []] (.sv (.one (.bool (.eq (.var 15) (.lit 1)))))))))) (.imp (.not (.eq (.var 10) (.lit 0))) (.post [.ro 0 [.lit 0, .lit 1, .lit 2] false, .hp 11 [3, 1] [.var 1] [], .hp 10 [4] [.var 3] [.var 1], .hp 8 [] [.var 7] [], .dead] (.sv (.one (.bool .ff)))))))))))) (.imp (.not (.eq (.var 6) (.lit 64))) (.post [.ro 0 [.lit 0, .lit 1, .lit 2] false, .hp 3 [1] [.var 1] [], .hp 4 [] [.var 3] [.var 1]] (.sv (.one (.bool .ff))))))))) (.imp (.eq (.var 3) (.lit (-1))) (.post [.ro 0 [.lit 0, .lit 1, .lit 2] false, .hp 3 [1] [.var 1] [], .hp 4 [] [.var 3] [.var 1]] (.sv (.one (.bool .ff))))))) (.imp (.not (.eq (.var 5) (.lit 0))) (.post [.ro 0 [.lit 0, .lit 1, .lit 2] false, .hp 3 [1] [.var 1] [], .hp 4 [] [.var 3] [.var 1]] (.sv (.one (.bool .ff)))))))))
noncomputable def awakeW : Walk Tryd.prog lwΓ awakeS.fn where
  Λ := noLoops
  args := []
  mem := [.ro 0 [.lit 0, .lit 1, .lit 2] false]
  nv := 1
  nd := awakeNd
  ok := by kernel_rfl
theorem lwg0 : lwΓ[0]? = some newS := rfl
theorem lwg1 : lwΓ[1]? = some sopenS := rfl
theorem lwg2 : lwΓ[2]? = some sroomS := rfl
theorem lwg3 : lwΓ[3]? = some addS := rfl
theorem lwg4 : lwΓ[4]? = some srecS := rfl
theorem ex_add : packOk [[120]] ∧ (packB [[120]]).length = 2 := ⟨by intro r hr; rw [List.mem_singleton] at hr; subst hr; decide, by
  have : packB [[120]] = [1, 120] := by
    show (textBytes [120] ++ []) = _
    unfold textBytes
    rw [numB_low (by decide)]; rfl
  rw [this]; rfl⟩
theorem aw_add : (addR (newD 6) (mkS ⟨0, 64, 0, 0, z16, false⟩ [] ⟨3, 64, 0, 0, z16, false⟩ []) [[120]]).e = 0 ∧ (addR (newD 6) (mkS ⟨0, 64, 0, 0, z16, false⟩ [] ⟨3, 64, 0, 0, z16, false⟩ []) [[120]]).S.recs = [[120]] := by
  have hH : Holds (newD 6) 0 3 0 [] (List.replicate 16 0) := newD_holds (by omega) (by omega) (by omega)
  have ha := (hH.append (b := packB [[120]]) (nt' := z16) (by rw [ex_add.2]; decide) (by decide) rfl).1
  obtain ⟨a1, a2, a3⟩ := addR_ok (D := newD 6) (S := mkS ⟨0, 64, 0, 0, z16, false⟩ [] ⟨3, 64, 0, 0, z16, false⟩ []) (rows := [[120]]) rfl ex_add.1 (by simp) (by rw [ex_add.2]; decide) ha
  refine ⟨a1, ?_⟩
  rw [a3]; rfl
theorem awakeS_ok : awakeS.OK Tryd.prog := by
  refine Spec.of_fn (Γ := lwΓ) lwΓ_ok ?_
  rintro xs Hs Rs hl1 hl2 ⟨R, g, rfl, rfl, hG⟩
  have e0 : Hs = [] := List.length_eq_zero_iff.1 hl1
  subst e0
  refine ⟨awakeW, envI [] false [R], fun _ _ => True, fun _ _ => 0, rfl, ⟨?_, ?_, ?_, ?_⟩, (fun _ h => nomatch h), ?_⟩
  · intro r hr ho; simp [awakeW] at hr; subst hr; cases ho
  · intro r hr ho; simp [awakeW] at hr; subst hr; exact ⟨R, by simp, Hl.le_refl _⟩
  · simp [awakeW]
  · intro r hr; simp [awakeW] at hr; subst hr; trivial
  · show Nd.holds _ _ _ awakeNd
    generalize hρ : envI [] false [R] = ρ
    have w0 : ρ.h 0 = R := by rw [← hρ]; rfl
    clear hρ
    obtain ⟨hE, hS⟩ := sOpen_new (m := 6) (by omega)
    have hE : sOpenE (newD 6) = 0 := hE
    have hS : sOpen (newD 6) = mkS ⟨0, 64, 0, 0, z16, false⟩ [] ⟨3, 64, 0, 0, z16, false⟩ [] := hS
    unfold awakeNd
    simp only [Nd.holds, X.pre, X.rel, X.n, Src.ok, Src.len, Src.vals, true_and, and_true, if_true, Nat.mul_one, Nat.add_zero, Nat.reduceAdd, List.length_cons, List.length_nil, bT_tt, bT_ff, bT_bvar, bT_not, bT_and, bT_or, bT_ite, bT_lt, bT_le, bT_eq, bT_beq, bT_seq, bT_hB, bT_his, bT_hby, bT_hism, bT_hks, iev_lit, iev_var, iev_add, iev_sub, iev_mul, iev_wrap, iev_ite, iev_hI, iev_hP, iev_hmlen, sev_ite, sev_slit, sev_sof, sev_svar, TV.ev, SV.ev, CV.ev, List.map_cons, List.map_nil, Res.hl, cpTV, Cp.sv, Ck.cv, cpSVs, Cp.len, Ck.len, newHs_zero, newHs_one, roots_ne, lwg0, lwg1, lwg2, lwg3, lwg4, lwr0, lwr1, lwr2, lwr3, lwr4, rptr, rpi, rsl]
    refine ⟨⟨6, rfl⟩, fun q1 g1 ⟨F1, hp1, hF1, _⟩ => ?_⟩
    have hD1 := new_post hp1
    rw [← hF1 trivial] at hD1
    refine ⟨⟨_, _, _, rfl, rfl, hD1, openB_bytes (newD_bytes 6), openB_bytes (newD_bytes 6)⟩, fun q2 g2 ⟨F2, hp2, hF2, _⟩ => ?_⟩
    obtain ⟨pv, hD2, hv2, hs2, _⟩ := sopen_post hD1 hp2
    simp only [Value.tuple.injEq, Array.mk.injEq, List.cons.injEq, Value.int.injEq, true_and, and_true] at hv2
    obtain ⟨rfl, h5⟩ := hv2
    have hs2 := hs2 hE
    rw [hS, ← hF2 trivial] at hs2
    rw [hE] at h5
    refine ⟨fun _ => ⟨fun _ => ⟨⟨_, _, _, _, rfl, rfl, hs2.rd, by decide⟩, fun q3 g3 ⟨F3, hp3, _⟩ => ?_⟩, fun h => absurd h hs2.ne⟩, fun h => absurd h5 h⟩
    have h6 := sroom_post hs2.rd hp3
    have h6 : q3.i 6 = 64 := by simpa [mkS] using h6
    refine ⟨fun _ q4 g4 p7 q5 g5 h8 q6 g6 p9 => ?_, fun h => absurd h6 h⟩
    have G6 : Agree 7 q3 q6 := g4.trans ((g5.trans (g6.mono (by omega))).mono (by omega))
    have G26 : Agree 6 q2 q6 := g3.trans (G6.mono (by omega))
    have e7 : q6.i 7 = q4.i 7 := by rw [g6.i 7 (by omega), g5.i 7 (by omega)]
    have hrows : RowsB (Hl.one (q6.i 9).toNat (.cells #[Value.slice (slP (q6.i 7) 0) (Int.toNat 1) (Int.toNat 1)] 30 (0, 0))) (q6.h 8) (.slice (slP (q6.i 9) 0) (Int.toNat 1) (Int.toNat 1)) [[120]] := by
      refine ⟨[Value.slice (slP (q6.i 7) 0) (Int.toNat 1) (Int.toNat 1)], q6.i 9, 0, 1, rfl, Int.le_refl _, rfl, fun j u hj => ?_, fun j u r hj hr => ?_⟩
      · refine ⟨p9, ?_⟩
        rw [Hl.one_cell]
        match j with
        | 0 => exact hj
      · match j with
        | 0 =>
          have hj : Value.slice (slP (q6.i 7) 0) (Int.toNat 1) (Int.toNat 1) = u := by simpa using hj
          have hr : [120] = r := by simpa using hr
          subst hj hr
          refine ⟨q6.i 7, 0, 1, rfl, Int.le_refl _, Or.inr ⟨by rw [e7]; exact p7, fun j z hz => ?_⟩⟩
          rw [g6.h 8 (by omega), h8, e7, Hl.one_cell]
          match j with
          | 0 => cases hz; rfl
    have hs6 : StoreAt (q6.h 4) (.pointer (slP (q6.i 3) (q6.i 4))) (.pointer (slP (q1.i 1) (q1.i 2))) (mkS ⟨0, 64, 0, 0, z16, false⟩ [] ⟨3, 64, 0, 0, z16, false⟩ []) := by
      rw [G26.h 4 (by omega), G26.i 3 (by omega), G26.i 4 (by omega)]; exact hs2
    have hD6 : DiskAt (q6.h 3) (.pointer (slP (q1.i 1) (q1.i 2))) (newD 6) := by rw [G26.h 3 (by omega)]; exact hD2
    have hG6 : Gl (q6.h 0) g := by
      rw [G26.h 0 (by omega), g2.h 0 (by omega), g1.h 0 (by omega), w0]; exact hG
    refine ⟨⟨_, _, _, _, _, _, _, g, _, _, _, [[120]], rfl, rfl, rfl, hs6, hD6, hrows, hG6, by decide, by decide, by decide, Int.le_refl _, by decide⟩, fun q7 g7 ⟨F7, hp7, _⟩ => ?_⟩
    obtain ⟨hD7, hs7, hv7⟩ := add_post (H' := q7.h 10) (HD' := q7.h 11) hs6 hD6 hrows hp7
    rw [aw_add.1] at hv7
    have hv7 : q7.i 10 = 0 := by simpa using hv7
    rw [g7.i 3 (by omega), g7.i 4 (by omega)]
    refine ⟨fun _ => ⟨⟨_, _, _, _, rfl, rfl, hs7.rd, by rw [aw_add.2]; decide, by rw [aw_add.2]; decide⟩, fun q8 g8 ⟨F8, hp8, hF8, hn8⟩ => ?_⟩, fun h => absurd hv7 h⟩
    have hn8 : -1 ≤ q8.i 13 ∧ 0 ≤ q8.i 14 ∧ 0 ≤ q8.i 15 ∧ 0 ≤ q8.i 16 := hn8.1
    have hr8 := srec_post hs7.rd hp8
    rw [aw_add.2] at hr8
    have h15 : q8.i 15 = 1 := RowsR.lenI hr8 hn8.2.2.1
    have hbv : bev q8 (.eq (.var 15) (.lit 1)) = true := by
      rw [bev_eq, iev_var, iev_lit, h15]; rfl
    refine ⟨hn8.2.2.1, fun _ => ⟨[], [], rfl, rfl, ⟨⟨fun _ => 0, fun _ => true, fun _ => .empty, fun _ => .tuple #[], fun _ => Hl.none⟩, ?_, trivial, trivial⟩, ?_⟩⟩
    · show Value.bool (bev q8 _) = .bool true
      rw [hbv]
    · show Value.bool (bev q8 _) = .bool true
      rw [hbv]
end Go.Proofs.YtomdimlnggpgbaaDoor
