/- Layer 8: bytes into sectors, a head into its sector, as contracts. No condition. -/
import Derived.Test.YtomdimlnggpgbaaDoorCelE
set_option linter.unusedSimpArgs false
set_option linter.unusedVariables false
set_option linter.constructorNameAsVariable false
namespace Go.Proofs.YtomdimlnggpgbaaDoor.D
open Go Go.Sx

theorem OwB.rep {F : Hl} {e : TypeId} {v : Value} {bs : List Int} (h : OwB F e v bs) : ∃ (x : Int) (c : Nat), -1 ≤ x ∧ v = .slice (slP x 0) bs.length c ∧ bs.length ≤ c ∧ ((x = -1 ∧ bs = []) ∨ (0 ≤ x ∧ ∀ j z, bs[j]? = some z → F.cell x.toNat j = some (.int .u8 z))) := by
  obtain ⟨hl, h⟩ := h
  rcases h with ⟨rfl, hn⟩ | ⟨g, cap, cur, rfl, hg, hle, hm, hs, ht⟩
  · exact ⟨-1, 0, by omega, by rw [slP_nil, hn], by omega, Or.inl ⟨rfl, List.length_eq_zero_iff.1 hn⟩⟩
  · refine ⟨g, cap, by omega, by rw [slP_pos (by omega)]; simp, hle, Or.inr ⟨by omega, fun j z hz => ?_⟩⟩
    have hj := (List.getElem?_eq_some_iff.1 hz).1
    simp only [Int.toNat_natCast, Hl.cell, hg]
    have e1 : (cur.toList.take (bs.length * 1))[j]? = some (.int .u8 z) := by rw [ht, bys_get, hz]; rfl
    rw [List.getElem?_take_of_lt (by omega), Array.getElem?_toList] at e1
    exact e1

/-! ### fill -/
def secA (all : List Int) (i : Nat) : List Int := (List.range 64).map fun j => (all[64 * i + j]?).getD 0
def fillGo (frm : Int) (all : List Int) : Nat → Nat → DM → Int × DM
  | 0, _, D => syncR D
  | f + 1, i, D => if 64 * i < all.length then (if (writeR D (frm + 2 + i) (secA all i)).1 ≠ 0 then writeR D (frm + 2 + i) (secA all i) else fillGo frm all f (i + 1) (writeR D (frm + 2 + i) (secA all i)).2) else syncR D
def fillR (D : DM) (frm : Int) (all : List Int) (from_ : Int) : Int × DM := fillGo frm all (all.length + 1) (from_ / 64).toNat D
def fillS : Sx.Spec where
  fn := 77
  own := [.link 0 0]
  rd := [0, 1]
  res := [.one (.int .i64)]
  pre := fun xs Hs Rs => ∃ p u all fr H R1 R2 dp sl L D, xs = [p, u, .int .i64 fr] ∧ Hs = [H] ∧ Rs = [R1, R2] ∧ LogRd R1 p dp sl L ∧ OwB R2 5 u all ∧ DiskAt H dp D ∧ 0 ≤ fr ∧ fr ≤ 1073741824 ∧ all.length ≤ 1073741824
  post := fun xs Hs Rs v Hs' F => ∃ p u all fr H R1 R2 dp sl L D H', xs = [p, u, .int .i64 fr] ∧ Hs = [H] ∧ Rs = [R1, R2] ∧ LogRd R1 p dp sl L ∧ OwB R2 5 u all ∧ DiskAt H dp D ∧ Hs' = [H'] ∧ DiskAt H' dp (fillR D L.frm all fr).2 ∧ v = .int .i64 (fillR D L.frm all fr).1
def fillW64 : E := .wrap .i64 (.mul (.var 20) (.lit 64))
def fillM : E := .ite (.lt (.sub (.var 3) fillW64) (.lit 64)) (.sub (.var 3) fillW64) (.lit 64)
def fillY : E := .ite (.eq (.var 4) fillW64) (.var 2) (.add (.var 2) fillW64)
def fillCs : List CV := (List.range 64).map fun (j : Nat) => .int .u8 (.ite (.lt (.lit (j : Int)) fillM) (.hI 7 (.var 1) fillY j) (.lit 0))
def fillNd : Nd := .and (.inv 0 [⟨20, 0, .int .i64 (.wrap .i64 (.quo (.var 5) (.lit 64)))⟩] [(21, some 6)]) (.havoc 0 0 9 (.and (.e (.le (.lit 0) (.var 3))) (.and (.imp (.lt (.wrap .i64 (.mul (.var 20) (.lit 64))) (.var 3)) (.and (.pre (.mk 22 5 [.int .u8 (.lit 0)] 1 (.lit 64))) (.ext (.mk 22 5 [.int .u8 (.lit 0)] 1 (.lit 64)) (.and (.e (.le (.lit (-1)) (.var 1))) (.and (.e (.le (.lit 0) (.var 2))) (.and (.e (.le (.lit 0) (.wrap .i64 (.mul (.var 20) (.lit 64))))) (.and (.e (.le (.wrap .i64 (.mul (.var 20) (.lit 64))) (.var 3))) (.and (.e (.le (.var 3) (.var 4))) (.and (.e (.and (.or (.and (.eq (.var 1) (.lit (-1))) (.eq (.sub (.var 3) (.wrap .i64 (.mul (.var 20) (.lit 64)))) (.lit 0))) (.and (.le (.lit 0) (.var 1)) (.and (.le (.lit 0) fillY) (.hby 7 (.var 1) fillY fillM)))) (.and (.le (.lit 0) (.sub (.var 3) (.wrap .i64 (.mul (.var 20) (.lit 64))))) (.le fillM (.lit 64))))) (.and (.e (.le (.lit 0) (.var 0))) (.and (.e (.his 8 (.var 0) (.lit 0) 0 .ptr)) (.and (.e (.his 8 (.var 0) (.lit 1) 0 (.int .i64))) (.and (.pre (.call 0 23 [.sv (.one (.hptr (.hP 8 (.var 0) (.lit 0) 0 0) (.hP 8 (.var 0) (.lit 0) 0 1))), .sv (.one (.int .i64 (.wrap .i64 (.add (.wrap .i64 (.add (.hI 8 (.var 0) (.lit 1) 0) (.lit 2))) (.var 20))))), .sv (.one (.sl (.var 22) (.lit 0) (.lit 64) (.lit 64)))] [.hp 21 [] [.hP 8 (.var 0) (.lit 0) 0 0] []] [.blk 22 fillCs 5])) (.ext (.call 0 23 [.sv (.one (.hptr (.hP 8 (.var 0) (.lit 0) 0 0) (.hP 8 (.var 0) (.lit 0) 0 1))), .sv (.one (.int .i64 (.wrap .i64 (.add (.wrap .i64 (.add (.hI 8 (.var 0) (.lit 1) 0) (.lit 2))) (.var 20))))), .sv (.one (.sl (.var 22) (.lit 0) (.lit 64) (.lit 64)))] [.hp 21 [] [.hP 8 (.var 0) (.lit 0) 0 0] []] [.blk 22 fillCs 5]) (.and (.imp (.not (.eq (.var 23) (.lit 0))) (.post [.hp 23 [21] [.hP 8 (.var 0) (.lit 0) 0 0] [], .ro 7 [.var 1] false, .ro 8 [.var 0] false, .dead] (.sv (.one (.int .i64 (.var 23)))))) (.imp (.eq (.var 23) (.lit 0)) (.back 0 0 [⟨20, 0, .int .i64 (.wrap .i64 (.add (.var 20) (.lit 1)))⟩] [(21, some 23)]))))))))))))))))) (.imp (.not (.lt (.wrap .i64 (.mul (.var 20) (.lit 64))) (.var 3))) (.and (.e (.le (.lit 0) (.var 0))) (.and (.e (.his 8 (.var 0) (.lit 0) 0 .ptr)) (.and (.pre (.call 1 22 [.sv (.one (.hptr (.hP 8 (.var 0) (.lit 0) 0 0) (.hP 8 (.var 0) (.lit 0) 0 1)))] [.hp 21 [] [.hP 8 (.var 0) (.lit 0) 0 0] []] [])) (.ext (.call 1 22 [.sv (.one (.hptr (.hP 8 (.var 0) (.lit 0) 0 0) (.hP 8 (.var 0) (.lit 0) 0 1)))] [.hp 21 [] [.hP 8 (.var 0) (.lit 0) 0 0] []] []) (.post [.hp 22 [21] [.hP 8 (.var 0) (.lit 0) 0 0] [], .ro 7 [.var 1] false, .ro 8 [.var 0] false] (.sv (.one (.int .i64 (.var 22)))))))))))))
def fillΓ : List Sx.Spec := [writeS, syncS]
theorem fillΓ_ok : ∀ t ∈ fillΓ, t.OK Tryd.prog := fun t ht => by
  simp only [fillΓ, List.mem_cons, List.mem_nil_iff, or_false] at ht
  rcases ht with rfl | rfl
  · exact writeS_ok
  · exact syncS_ok
def fillW : Walk Tryd.prog fillΓ fillS.fn where
  Λ := fun p => if lp p then some ⟨0, [(7, TI .i64 (.var 20))], [(0, .hp 21 [] [.hP 8 (.var 0) (.lit 0) 0 0] [])], 22⟩ else none
  args := [TP (.var 0) (.lit 0), .sv (.one (.sl (.var 1) (.var 2) (.var 3) (.var 4))), TI .i64 (.var 5)]
  mem := [.hp 6 [] [.hP 8 (.var 0) (.lit 0) 0 0] [], .ro 7 [.var 1] false, .ro 8 [.var 0] false]
  nv := 9
  nd := fillNd
  ok := by kernel_rfl
theorem fg0 : fillΓ[0]? = some writeS := rfl
theorem fg1 : fillΓ[1]? = some syncS := rfl
theorem fr0 : writeS.res = [.one (.int .i64)] := rfl
theorem fr1 : syncS.res = [.one (.int .i64)] := rfl
def fillInv (D : DM) (frm : Int) (all : List Int) (dp : Value) (fr : Int) (_ : Nat) (q : Env) : Prop := ∃ (f i : Nat) (D1 : DM), q.i 20 = i ∧ DiskAt (q.h 21) dp D1 ∧ fillGo frm all f i D1 = fillR D frm all fr ∧ all.length + 1 ≤ f + i ∧ i ≤ all.length + 16777217
theorem fillS_ok : fillS.OK Tryd.prog := by
  refine Spec.of_fn (Γ := fillΓ) fillΓ_ok ?_
  rintro xs Hs Rs hl1 hl2 ⟨p, u, all, fr, H, R1, R2, dp, sl, L, D, rfl, rfl, rfl, ⟨a, rfl, hL⟩, hO, hD, hf0, hf1, hall⟩
  obtain ⟨x, c, hx, rfl, hc, hcell⟩ := OwB.rep hO
  refine ⟨fillW, envI [a, x, 0, all.length, c, fr] false [Hl.none, Hl.none, Hl.none, Hl.none, Hl.none, Hl.none, H, R2, R1], fillInv D L.frm all dp fr, fun _ q => (all.length - q.i 20).toNat, ?_, ⟨?_, ?_, ?_, ?_⟩, (fun _ h => nomatch h), ?_⟩
  · show [Value.pointer (slP (a : Int) 0), Value.slice (slP x 0) ((all.length : Int)).toNat ((c : Int)).toNat, Value.int .i64 fr] = _
    rw [dArg, Int.toNat_natCast, Int.toNat_natCast]
  · intro r hr ho
    simp [fillW] at hr
    rcases hr with rfl | rfl | rfl
    · exact ⟨H, by simp, Hl.le_refl _⟩
    · cases ho
    · cases ho
  · intro r hr ho
    simp [fillW] at hr
    rcases hr with rfl | rfl | rfl
    · cases ho
    · exact ⟨R2, by simp, Hl.le_refl _⟩
    · exact ⟨R1, by simp, Hl.le_refl _⟩
  · simp [fillW, Res.own]
  · intro r hr
    simp [fillW] at hr
    rcases hr with rfl | rfl | rfl <;> trivial
  · show Nd.holds _ _ _ fillNd
    generalize hρ : envI [(a : Int), x, 0, all.length, c, fr] false [Hl.none, Hl.none, Hl.none, Hl.none, Hl.none, Hl.none, H, R2, R1] = ρ
    have v0 : ρ.i 0 = a := by rw [← hρ]; rfl
    have v1 : ρ.i 1 = x := by rw [← hρ]; rfl
    have v2 : ρ.i 2 = 0 := by rw [← hρ]; rfl
    have v3 : ρ.i 3 = all.length := by rw [← hρ]; rfl
    have v4 : ρ.i 4 = c := by rw [← hρ]; rfl
    have v5 : ρ.i 5 = fr := by rw [← hρ]; rfl
    have w6 : ρ.h 6 = H := by rw [← hρ]; rfl
    have w7 : ρ.h 7 = R2 := by rw [← hρ]; rfl
    have w8 : ρ.h 8 = R1 := by rw [← hρ]; rfl
    unfold fillNd
    simp only [Nd.holds, X.pre, X.rel, X.n, Src.ok, Src.len, Src.vals, true_and, and_true, if_true, Nat.mul_one, Nat.add_zero, Nat.reduceAdd, List.length_cons, List.length_nil, bT_tt, bT_ff, bT_bvar, bT_not, bT_and, bT_or, bT_ite, bT_lt, bT_le, bT_eq, bT_beq, bT_seq, bT_hB, bT_his, bT_hby, bT_hism, bT_hks, iev_lit, iev_var, iev_add, iev_sub, iev_mul, iev_wrap, iev_ite, iev_hI, iev_hP, iev_hmlen, sev_ite, sev_slit, sev_sof, sev_svar, TV.ev, SV.ev, CV.ev, List.map_cons, List.map_nil, Res.hl, cpTV, Cp.sv, Ck.cv, cpSVs, Cp.len, Ck.len, newHs_zero, newHs_one, roots_ne, fg0, fg1, fr0, fr1]
    have t0 : Int.toNat 0 = 0 := rfl
    have t1 : Int.toNat 1 = 1 := rfl
    have t64 : Int.toNat 64 = 64 := rfl
    obtain ⟨da, s, m, es, clock, hdp, hDi⟩ := id hD
    have c0 : R1.cell a 0 = some dp := by rw [hL.cell]; rfl
    have c1 : R1.cell a 1 = some (.int .i64 L.frm) := by rw [hL.cell]; rfl
    obtain ⟨f0, f1⟩ := hL.1.frm
    have ep : Value.pointer (slP (valP (R1.cell a 0) 0) (valP (R1.cell a 0) 1)) = dp := by rw [c0, hdp]; exact dArg da
    have wk : valIs (R1.cell a 0) Kd.ptr = true := by rw [c0, hdp]; rfl
    refine ⟨⟨all.length + 1, (fr / 64).toNat, D, ?_, ?_, rfl, by omega, by omega⟩, fun q g ⟨f, i, D1, e20, hD1, hgo, hfi, hi⟩ => ?_⟩
    · show IntKind.i64.wrap ((ρ.i 5).tdiv 64) = _
      rw [v5, Int.tdiv_eq_ediv_of_nonneg hf0, wrap_i64 (by omega) (by omega)]
      omega
    · show DiskAt (ρ.h 6) dp D
      rw [w6]; exact hD
    · have u0 : q.i 0 = a := by rw [g.i 0 (by omega), v0]
      have u3 : q.i 3 = all.length := by rw [g.i 3 (by omega), v3]
      have y8 : q.h 8 = R1 := by rw [g.h 8 (by omega), w8]
      have ew : IntKind.i64.wrap ((i : Int) * 64) = 64 * i := by rw [wrap_i64 (by omega) (by omega)]; omega
      have out : ∀ (q' : Env) (n : Nat) (vs : List Nat) (t : Mem) (r : Int × DM), Agree 9 ρ q' → fillR D L.frm all fr = r → DiskAt (q'.h n) dp r.2 → q'.i n = r.1 →
          postOf fillS [.pointer (some ⟨a, 0, none⟩), .slice (slP x 0) all.length c, .int .i64 fr] [H] [R1, R2] q' (.hp n vs [.hP 8 (.var 0) (.lit 0) 0 0] [] :: t) (.sv (.one (.int .i64 (.var n)))) := by
        intro q' n vs t r hq hr h1 h2 _
        refine ⟨[[0]], [], rfl, rfl, ⟨⟨fun _ => q'.i n, fun _ => false, fun _ => .empty, fun _ => .tuple #[], fun _ => Hl.none⟩, rfl, trivial, trivial⟩, _, _, all, fr, H, R1, R2, dp, sl, L, D, _, rfl, rfl, rfl, ⟨a, rfl, hL⟩, hO, hD, rfl, ?_, ?_⟩
        · show DiskAt (hls [q'.h n]) _ _
          rw [hls_one, hr]; exact h1
        · show Value.int .i64 (q'.i n) = _
          rw [h2, hr]
      rw [u0, u3, e20, ew, y8, Int.toNat_natCast, t0, ep]
      refine ⟨by omega, fun hlt => ⟨⟨by omega, by omega, by omega⟩, fun q1 g1 ⟨p22, _⟩ => ?_⟩, fun hge => ⟨by omega, wk, ⟨_, _, D1, rfl, rfl, hD1⟩, fun q1 g1 ⟨F, ⟨p', H', D', H2, hx, hH, hD', hH2, hD2, hv⟩, _, _⟩ => ?_⟩⟩
      · have G1 : Agree 9 ρ q1 := g.trans (g1.mono (by omega))
        have x1 : q1.i 1 = x := by rw [G1.i 1 (by omega), v1]
        have x2 : q1.i 2 = 0 := by rw [G1.i 2 (by omega), v2]
        have x3 : q1.i 3 = all.length := by rw [G1.i 3 (by omega), v3]
        have x4 : q1.i 4 = c := by rw [G1.i 4 (by omega), v4]
        have x20 : q1.i 20 = i := by rw [g1.i 20 (by omega), e20]
        have z7 : q1.h 7 = R2 := by rw [G1.h 7 (by omega), w7]
        have hcell : 0 ≤ x ∧ ∀ (j : Nat) (z : Int), all[j]? = some z → R2.cell x.toNat j = some (.int .u8 z) := by
          rcases hcell with ⟨_, h⟩ | h
          · rw [h] at hlt; simp only [List.length_nil] at hlt; omega
          · exact h
        obtain ⟨hx0, hcell⟩ := hcell
        have eW : iev q1 fillW64 = 64 * i := by
          unfold fillW64
          rw [iev_wrap, iev_mul, iev_var, iev_lit, x20, ew]
        have eM : iev q1 fillM = min (all.length - 64 * i : Int) 64 := by
          unfold fillM
          rw [iev_ite, bev_lt, iev_sub, iev_var, iev_lit, eW, x3]
          simp only [decide_eq_true_eq]
          split <;> omega
        have eY : iev q1 fillY = 64 * i := by
          unfold fillY
          rw [iev_ite, bev_eq, iev_add, iev_var, iev_var, eW, x2, x4]
          simp only [decide_eq_true_eq]
          split <;> omega
        have eC : (fillCs.map (CV.ev q1)) = bys (secA all i) := by
          unfold fillCs secA bys
          rw [List.map_map, List.map_map]
          refine List.map_congr_left fun j hj => ?_
          have hj := List.mem_range.1 hj
          show Value.int .u8 (iev q1 (.ite (.lt (.lit (j : Int)) fillM) (.hI 7 (.var 1) fillY j) (.lit 0))) = Value.int .u8 _
          rw [iev_ite, bev_lt, iev_hI, iev_lit, iev_lit, eM, eY, iev_var, x1, z7]
          simp only [decide_eq_true_eq]
          rcases Nat.lt_or_ge (64 * i + j) all.length with h | h
          · rw [if_pos (by omega), List.getElem?_eq_getElem h, show (64 * (i : Int)).toNat + j = 64 * i + j by omega, hcell _ _ (List.getElem?_eq_getElem h)]
            rfl
          · rw [if_neg (by omega), List.getElem?_eq_none h]; rfl
        have ei : IntKind.i64.wrap (IntKind.i64.wrap (valI (R1.cell a 1) + 2) + i) = L.frm + 2 + i := by
          rw [c1]
          show IntKind.i64.wrap (IntKind.i64.wrap (L.frm + 2) + i) = _
          rw [wrap_i64 (n := L.frm + 2) (by omega) (by omega), wrap_i64 (by omega) (by omega)]
        have wk1 : valIs (R1.cell a 1) (Kd.int .i64) = true := by rw [c1]; rfl
        have hrd : RdB (Hl.one (q1.i 22).toNat (.cells (bys (secA all i)).toArray 5 (0, 0))) (.slice (slP (q1.i 22) 0) 64 64) (secA all i) := by
          refine ⟨q1.i 22, 0, 64, by simp [secA], by omega, Or.inr ⟨p22, fun j z hz => ?_⟩⟩
          rw [Hl.one_cell, List.getElem?_toArray, bys_get, Int.toNat_zero, Nat.zero_add, hz]; rfl
        rw [x1, x2, x3, x4, x20, ew, eY, eM, eC, z7, G1.i 0 (by omega), v0, G1.h 8 (by omega), w8, Int.toNat_natCast, t1, t64, ep, ei]
        refine ⟨hx, by omega, by omega, by omega, by omega, ⟨Or.inr ⟨hx0, by omega, ?_⟩, by omega, by omega⟩, by omega, wk, wk1, ⟨dp, L.frm + 2 + i, _, secA all i, q1.h 21, _, D1, rfl, rfl, rfl, ?_, hrd⟩, fun q2 g2 ⟨F, ⟨p', i', u', bs', H', R', D', H2, hx, hH, hR, hD', hrd', hH2, hD2, hv⟩, _, _⟩ => ?_⟩
        · refine cells_bytes (bs := all.drop (64 * i)) (fun j z hz => ?_) (by rw [List.length_drop]; omega)
          rw [List.getElem?_drop] at hz
          rw [show (64 * (i : Int)).toNat + j = 64 * i + j by omega]
          exact hcell _ _ hz
        · rw [g1.h 21 (by omega)]; exact hD1
        · cases hx
          cases hH
          cases hR
          rw [g1.h 21 (by omega)] at hD'
          have e := hD'.uniq hD1
          subst e
          have e := hrd'.uniq hrd
          subst e
          simp only [Value.int.injEq, true_and, List.cons.injEq, and_true] at hv hH2
          rw [← hH2] at hD2
          have G2 : Agree 9 ρ q2 := G1.trans (g2.mono (by omega))
          have step : fillGo L.frm all f i D' = if (writeR D' (L.frm + 2 + i) (secA all i)).1 ≠ 0 then writeR D' (L.frm + 2 + i) (secA all i) else fillGo L.frm all (f - 1) (i + 1) (writeR D' (L.frm + 2 + i) (secA all i)).2 := by
            obtain ⟨k, rfl⟩ : ∃ k, f = k + 1 := ⟨f - 1, by omega⟩
            show (if 64 * i < all.length then _ else _) = _
            rw [if_pos (by omega)]; rfl
          refine ⟨fun h => out q2 23 _ _ (writeR D' (L.frm + 2 + i) (secA all i)) G2 ?_ hD2 hv, fun h => ?_⟩
          · rw [← hgo, step, if_pos (by rw [← hv]; exact h)]
          · have e20' : (assign q2 [⟨20, 0, .int .i64 (.wrap .i64 (.add (.var 20) (.lit 1)))⟩] [(21, some 23)]).i 20 = i + 1 := by
              show IntKind.i64.wrap (q2.i 20 + 1) = _
              rw [g2.i 20 (by omega), x20, wrap_i64 (by omega) (by omega)]
            refine ⟨⟨f - 1, i + 1, (writeR D' (L.frm + 2 + i) (secA all i)).2, by rw [e20']; omega, hD2, ?_, by omega, by omega⟩, by rw [e20']; omega⟩
            rw [← hgo, step, if_neg (by rw [← hv, h]; simp)]
      · cases hx
        cases hH
        have e := hD'.uniq hD1
        subst e
        simp only [Value.int.injEq, true_and, List.cons.injEq, and_true] at hv hH2
        rw [← hH2] at hD2
        refine out q1 22 _ _ (syncR D') (g.trans (g1.mono (by omega))) ?_ hD2 hv
        rw [← hgo]
        cases f with
        | zero => rfl
        | succ k =>
          show (if 64 * i < all.length then _ else _) = _
          rw [if_neg (by omega)]
end Go.Proofs.YtomdimlnggpgbaaDoor.D
