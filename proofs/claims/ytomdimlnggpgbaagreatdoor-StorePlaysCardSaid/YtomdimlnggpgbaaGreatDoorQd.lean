/- Layer 8: bytes into sectors, a head into its sector, as contracts. No condition. -/
import Derived.Test.YtomdimlnggpgbaaGreatDoorChecked
import Derived.WalkKit
import Derived.LaidEql
import Derived.Stop.Asserts
import Derived.RowKitTokens
import Derived.Test.YtomdimlnggpgbaaGreatDoorRows
import Derived.Test.YtomdimlnggpgbaaGreatDoorQc
set_option linter.unusedSimpArgs false
set_option linter.unusedVariables false
set_option linter.constructorNameAsVariable false
namespace Go.Proofs.YtomdimlnggpgbaaGreatDoor.D
open Go Go.Sx
theorem OwB.rep {F : Hl} {e : TypeId} {v : Value} {bs : List Int} (h : OwB F e v bs) : ∃ (x : Int) (c : Nat), -1 ≤ x ∧ v = .slice (slP x 0) bs.length c ∧ bs.length ≤ c ∧ ((x = -1 ∧ bs = []) ∨ (0 ≤ x ∧ ∀ j z, bs[j]? = some z → F.cell x.toNat j = some (.int .u8 z))) := by
  obtain ⟨hl, h⟩ := h
  rcases h with ⟨rfl, hn⟩ | ⟨g, cap, cur, rfl, hg, hle, hm, hs, ht⟩
  · exact ⟨-1, 0, by omega, by rw [slP_nil, hn], by omega, Or.inl ⟨rfl, List.length_eq_zero_iff.1 hn⟩⟩
  · refine ⟨g, cap, by omega, by rw [slP_pos (by omega)]; simp, hle, Or.inr ⟨by omega, fun j z hz => ?_⟩⟩
    have hj := (List.getElem?_eq_some_iff.1 hz).1
    simp only [Int.toNat_natCast, Hl.cell, hg]
    have e1 : (cur.toList.take (bs.length * 1))[j]? = some (.int .u8 z) := by rw [ht, bys_get, hz]; rfl
    rw [List.getElem?_take_of_lt (by omega), Array.getElem?_toList] at e1
    exact e1
def secA (all : List Int) (i : Nat) : List Int := (List.range 64).map fun j => (all[64 * i + j]?).getD 0
def fillGo (frm : Int) (all : List Int) : Nat → Nat → DM → Int × DM
  | 0, _, D => syncR D
  | f + 1, i, D => if 64 * i < all.length then (if (writeR D (frm + 2 + i) (secA all i)).1 ≠ 0 then writeR D (frm + 2 + i) (secA all i) else fillGo frm all f (i + 1) (writeR D (frm + 2 + i) (secA all i)).2) else syncR D
def fillR (D : DM) (frm : Int) (all : List Int) (from_ : Int) : Int × DM := fillGo frm all (all.length + 1) (from_ / 64).toNat D
def fillS : Sx.Spec where
  fn := 131
  own := [.link 0 0]
  rd := [0, 1]
  res := [.one (.int .i64)]
  pre := fun xs Hs Rs => ∃ p u all fr H R1 R2 dp sl L D, xs = [p, u, .int .i64 fr] ∧ Hs = [H] ∧ Rs = [R1, R2] ∧ LogRd R1 p dp sl L ∧ OwB R2 5 u all ∧ DiskAt H dp D ∧ 0 ≤ fr ∧ fr ≤ 1073741824 ∧ all.length ≤ 1073741824
  post := fun xs Hs Rs v Hs' F => ∃ p u all fr H R1 R2 dp sl L D H', xs = [p, u, .int .i64 fr] ∧ Hs = [H] ∧ Rs = [R1, R2] ∧ LogRd R1 p dp sl L ∧ OwB R2 5 u all ∧ DiskAt H dp D ∧ Hs' = [H'] ∧ DiskAt H' dp (fillR D L.frm all fr).2 ∧ v = .int .i64 (fillR D L.frm all fr).1
def fillW64 : E := .wrap .i64 (.mul (.var 20) (.lit 64))
def fillM : E := .ite (.lt (.sub (.var 3) fillW64) (.lit 64)) (.sub (.var 3) fillW64) (.lit 64)
def fillY : E := .ite (.eq (.var 4) fillW64) (.var 2) (.add (.var 2) fillW64)
def fillCs : List CV := (List.range 64).map fun (j : Nat) => .int .u8 (.ite (.lt (.lit (j : Int)) fillM) (.hI 7 (.var 1) fillY j) (.lit 0))
def fillNd : Nd := .and (.inv 0 [⟨20, 0, .int .i64 (.wrap .i64 (.quo (.var 5) (.lit 64)))⟩] [(21, some 6)]) (.havoc 0 0 9 (.and (.e (.le (.lit 0) (.var 3))) (.and (.imp (.lt (.wrap .i64 (.mul (.var 20) (.lit 64))) (.var 3)) (.and (.pre (.mk 22 5 [.int .u8 (.lit 0)] 1 (.lit 64))) (.ext (.mk 22 5 [.int .u8 (.lit 0)] 1 (.lit 64)) (.and (.e (.le (.lit (-1)) (.var 1))) (.and (.e (.le (.lit 0) (.var 2))) (.and (.e (.le (.lit 0) (.wrap .i64 (.mul (.var 20) (.lit 64))))) (.and (.e (.le (.wrap .i64 (.mul (.var 20) (.lit 64))) (.var 3))) (.and (.e (.le (.var 3) (.var 4))) (.and (.e (.and (.or (.and (.eq (.var 1) (.lit (-1))) (.eq (.sub (.var 3) (.wrap .i64 (.mul (.var 20) (.lit 64)))) (.lit 0))) (.and (.le (.lit 0) (.var 1)) (.and (.le (.lit 0) fillY) (.hby 7 (.var 1) fillY fillM)))) (.and (.le (.lit 0) (.sub (.var 3) (.wrap .i64 (.mul (.var 20) (.lit 64))))) (.le fillM (.lit 64))))) (.and (.e (.le (.lit 0) (.var 0))) (.and (.e (.his 8 (.var 0) (.lit 0) 0 .ptr)) (.and (.e (.his 8 (.var 0) (.lit 1) 0 (.int .i64))) (.and (.pre (.call 0 23 [.sv (.one (.hptr (.hP 8 (.var 0) (.lit 0) 0 0) (.hP 8 (.var 0) (.lit 0) 0 1))), .sv (.one (.int .i64 (.wrap .i64 (.add (.wrap .i64 (.add (.hI 8 (.var 0) (.lit 1) 0) (.lit 2))) (.var 20))))), .sv (.one (.sl (.var 22) (.lit 0) (.lit 64) (.lit 64)))] [.hp 21 [] [.hP 8 (.var 0) (.lit 0) 0 0] []] [.blk 22 fillCs 5])) (.ext (.call 0 23 [.sv (.one (.hptr (.hP 8 (.var 0) (.lit 0) 0 0) (.hP 8 (.var 0) (.lit 0) 0 1))), .sv (.one (.int .i64 (.wrap .i64 (.add (.wrap .i64 (.add (.hI 8 (.var 0) (.lit 1) 0) (.lit 2))) (.var 20))))), .sv (.one (.sl (.var 22) (.lit 0) (.lit 64) (.lit 64)))] [.hp 21 [] [.hP 8 (.var 0) (.lit 0) 0 0] []] [.blk 22 fillCs 5]) (.and (.imp (.not (.eq (.var 23) (.lit 0))) (.post [.hp 23 [21] [.hP 8 (.var 0) (.lit 0) 0 0] [], .ro 7 [.var 1] false, .ro 8 [.var 0] false, .dead] (.sv (.one (.int .i64 (.var 23)))))) (.imp (.eq (.var 23) (.lit 0)) (.back 0 0 [⟨20, 0, .int .i64 (.wrap .i64 (.add (.var 20) (.lit 1)))⟩] [(21, some 23)]))))))))))))))))) (.imp (.not (.lt (.wrap .i64 (.mul (.var 20) (.lit 64))) (.var 3))) (.and (.e (.le (.lit 0) (.var 0))) (.and (.e (.his 8 (.var 0) (.lit 0) 0 .ptr)) (.and (.pre (.call 1 22 [.sv (.one (.hptr (.hP 8 (.var 0) (.lit 0) 0 0) (.hP 8 (.var 0) (.lit 0) 0 1)))] [.hp 21 [] [.hP 8 (.var 0) (.lit 0) 0 0] []] [])) (.ext (.call 1 22 [.sv (.one (.hptr (.hP 8 (.var 0) (.lit 0) 0 0) (.hP 8 (.var 0) (.lit 0) 0 1)))] [.hp 21 [] [.hP 8 (.var 0) (.lit 0) 0 0] []] []) (.post [.hp 22 [21] [.hP 8 (.var 0) (.lit 0) 0 0] [], .ro 7 [.var 1] false, .ro 8 [.var 0] false] (.sv (.one (.int .i64 (.var 22)))))))))))))
def fillΓ : List Sx.Spec := [writeS, syncS]
theorem fillΓ_ok : ∀ t ∈ fillΓ, t.OK Tryz.prog := fun t ht => by
  simp only [fillΓ, List.mem_cons, List.mem_nil_iff, or_false] at ht
  rcases ht with rfl | rfl
  · exact writeS_ok
  · exact syncS_ok
def fillW : Walk Tryz.prog fillΓ fillS.fn where
  Λ := fun p => if lp p then some ⟨0, [(7, TI .i64 (.var 20))], [(0, .hp 21 [] [.hP 8 (.var 0) (.lit 0) 0 0] [])], 22⟩ else none
  args := [TP (.var 0) (.lit 0), .sv (.one (.sl (.var 1) (.var 2) (.var 3) (.var 4))), TI .i64 (.var 5)]
  mem := [.hp 6 [] [.hP 8 (.var 0) (.lit 0) 0 0] [], .ro 7 [.var 1] false, .ro 8 [.var 0] false]
  nv := 9
  nd := fillNd
  ok := by kernel_rfl
theorem fg0 : fillΓ[0]? = some writeS := rfl
theorem fg1 : fillΓ[1]? = some syncS := rfl
theorem fr0 : writeS.res = [.one (.int .i64)] := rfl
theorem fr1 : syncS.res = [.one (.int .i64)] := rfl
def fillInv (D : DM) (frm : Int) (all : List Int) (dp : Value) (fr : Int) (_ : Nat) (q : Env) : Prop := ∃ (f i : Nat) (D1 : DM), q.i 20 = i ∧ DiskAt (q.h 21) dp D1 ∧ fillGo frm all f i D1 = fillR D frm all fr ∧ all.length + 1 ≤ f + i ∧ i ≤ all.length + 16777217
theorem fillS_ok : fillS.OK Tryz.prog := by
  refine Spec.of_fn (Γ := fillΓ) fillΓ_ok ?_
  rintro xs Hs Rs hl1 hl2 ⟨p, u, all, fr, H, R1, R2, dp, sl, L, D, rfl, rfl, rfl, ⟨a, rfl, hL⟩, hO, hD, hf0, hf1, hall⟩
  obtain ⟨x, c, hx, rfl, hc, hcell⟩ := OwB.rep hO
  refine ⟨fillW, envI [a, x, 0, all.length, c, fr] false [Hl.none, Hl.none, Hl.none, Hl.none, Hl.none, Hl.none, H, R2, R1], fillInv D L.frm all dp fr, fun _ q => (all.length - q.i 20).toNat, ?_, ⟨?_, ?_, ?_, ?_⟩, (fun _ h => nomatch h), ?_⟩
  · show [Value.pointer (slP (a : Int) 0), Value.slice (slP x 0) ((all.length : Int)).toNat ((c : Int)).toNat, Value.int .i64 fr] = _
    rw [dArg, Int.toNat_natCast, Int.toNat_natCast]
  · intro r hr ho
    simp [fillW] at hr
    rcases hr with rfl | rfl | rfl
    · exact ⟨H, by simp, Hl.le_refl _⟩
    · cases ho
    · cases ho
  · intro r hr ho
    simp [fillW] at hr
    rcases hr with rfl | rfl | rfl
    · cases ho
    · exact ⟨R2, by simp, Hl.le_refl _⟩
    · exact ⟨R1, by simp, Hl.le_refl _⟩
  · simp [fillW, Res.own]
  · intro r hr
    simp [fillW] at hr
    rcases hr with rfl | rfl | rfl <;> trivial
  · show Nd.holds _ _ _ fillNd
    generalize hρ : envI [(a : Int), x, 0, all.length, c, fr] false [Hl.none, Hl.none, Hl.none, Hl.none, Hl.none, Hl.none, H, R2, R1] = ρ
    have v0 : ρ.i 0 = a := by rw [← hρ]; rfl
    have v1 : ρ.i 1 = x := by rw [← hρ]; rfl
    have v2 : ρ.i 2 = 0 := by rw [← hρ]; rfl
    have v3 : ρ.i 3 = all.length := by rw [← hρ]; rfl
    have v4 : ρ.i 4 = c := by rw [← hρ]; rfl
    have v5 : ρ.i 5 = fr := by rw [← hρ]; rfl
    have w6 : ρ.h 6 = H := by rw [← hρ]; rfl
    have w7 : ρ.h 7 = R2 := by rw [← hρ]; rfl
    have w8 : ρ.h 8 = R1 := by rw [← hρ]; rfl
    unfold fillNd
    simp only [Nd.holds, X.pre, X.rel, X.n, Src.ok, Src.len, Src.vals, true_and, and_true, if_true, Nat.mul_one, Nat.add_zero, Nat.reduceAdd, List.length_cons, List.length_nil, bT_tt, bT_ff, bT_bvar, bT_not, bT_and, bT_or, bT_ite, bT_lt, bT_le, bT_eq, bT_beq, bT_seq, bT_hB, bT_his, bT_hby, bT_hism, bT_hks, iev_lit, iev_var, iev_add, iev_sub, iev_mul, iev_wrap, iev_ite, iev_hI, iev_hP, iev_hmlen, sev_ite, sev_slit, sev_sof, sev_svar, TV.ev, SV.ev, CV.ev, List.map_cons, List.map_nil, Res.hl, cpTV, Cp.sv, Ck.cv, cpSVs, Cp.len, Ck.len, newHs_zero, newHs_one, roots_ne, fg0, fg1, fr0, fr1]
    have t0 : Int.toNat 0 = 0 := rfl
    have t1 : Int.toNat 1 = 1 := rfl
    have t64 : Int.toNat 64 = 64 := rfl
    obtain ⟨da, s, m, es, clock, hdp, hDi⟩ := id hD
    have c0 : R1.cell a 0 = some dp := by rw [hL.cell]; rfl
    have c1 : R1.cell a 1 = some (.int .i64 L.frm) := by rw [hL.cell]; rfl
    obtain ⟨f0, f1⟩ := hL.1.frm
    have ep : Value.pointer (slP (valP (R1.cell a 0) 0) (valP (R1.cell a 0) 1)) = dp := by rw [c0, hdp]; exact dArg da
    have wk : valIs (R1.cell a 0) Kd.ptr = true := by rw [c0, hdp]; rfl
    refine ⟨⟨all.length + 1, (fr / 64).toNat, D, ?_, ?_, rfl, by omega, by omega⟩, fun q g ⟨f, i, D1, e20, hD1, hgo, hfi, hi⟩ => ?_⟩
    · show IntKind.i64.wrap ((ρ.i 5).tdiv 64) = _
      rw [v5, Int.tdiv_eq_ediv_of_nonneg hf0, wrap_i64 (by omega) (by omega)]
      omega
    · show DiskAt (ρ.h 6) dp D
      rw [w6]; exact hD
    · have u0 : q.i 0 = a := by rw [g.i 0 (by omega), v0]
      have u3 : q.i 3 = all.length := by rw [g.i 3 (by omega), v3]
      have y8 : q.h 8 = R1 := by rw [g.h 8 (by omega), w8]
      have ew : IntKind.i64.wrap ((i : Int) * 64) = 64 * i := by rw [wrap_i64 (by omega) (by omega)]; omega
      have out : ∀ (q' : Env) (n : Nat) (vs : List Nat) (t : Mem) (r : Int × DM), Agree 9 ρ q' → fillR D L.frm all fr = r → DiskAt (q'.h n) dp r.2 → q'.i n = r.1 →
          postOf fillS [.pointer (some ⟨a, 0, none⟩), .slice (slP x 0) all.length c, .int .i64 fr] [H] [R1, R2] q' (.hp n vs [.hP 8 (.var 0) (.lit 0) 0 0] [] :: t) (.sv (.one (.int .i64 (.var n)))) := by
        intro q' n vs t r hq hr h1 h2 _
        refine ⟨[[0]], [], rfl, rfl, ⟨⟨fun _ => q'.i n, fun _ => false, fun _ => .empty, fun _ => .tuple #[], fun _ => Hl.none⟩, rfl, trivial, trivial⟩, _, _, all, fr, H, R1, R2, dp, sl, L, D, _, rfl, rfl, rfl, ⟨a, rfl, hL⟩, hO, hD, rfl, ?_, ?_⟩
        · show DiskAt (hls [q'.h n]) _ _
          rw [hls_one, hr]; exact h1
        · show Value.int .i64 (q'.i n) = _
          rw [h2, hr]
      rw [u0, u3, e20, ew, y8, Int.toNat_natCast, t0, ep]
      refine ⟨by omega, fun hlt => ⟨⟨by omega, by omega, by omega⟩, fun q1 g1 ⟨p22, _⟩ => ?_⟩, fun hge => ⟨by omega, wk, ⟨_, _, D1, rfl, rfl, hD1⟩, fun q1 g1 ⟨F, ⟨p', H', D', H2, hx, hH, hD', hH2, hD2, hv⟩, _, _⟩ => ?_⟩⟩
      · have G1 : Agree 9 ρ q1 := g.trans (g1.mono (by omega))
        have x1 : q1.i 1 = x := by rw [G1.i 1 (by omega), v1]
        have x2 : q1.i 2 = 0 := by rw [G1.i 2 (by omega), v2]
        have x3 : q1.i 3 = all.length := by rw [G1.i 3 (by omega), v3]
        have x4 : q1.i 4 = c := by rw [G1.i 4 (by omega), v4]
        have x20 : q1.i 20 = i := by rw [g1.i 20 (by omega), e20]
        have z7 : q1.h 7 = R2 := by rw [G1.h 7 (by omega), w7]
        have hcell : 0 ≤ x ∧ ∀ (j : Nat) (z : Int), all[j]? = some z → R2.cell x.toNat j = some (.int .u8 z) := by
          rcases hcell with ⟨_, h⟩ | h
          · rw [h] at hlt; simp only [List.length_nil] at hlt; omega
          · exact h
        obtain ⟨hx0, hcell⟩ := hcell
        have eW : iev q1 fillW64 = 64 * i := by
          unfold fillW64
          rw [iev_wrap, iev_mul, iev_var, iev_lit, x20, ew]
        have eM : iev q1 fillM = min (all.length - 64 * i : Int) 64 := by
          unfold fillM
          rw [iev_ite, bev_lt, iev_sub, iev_var, iev_lit, eW, x3]
          simp only [decide_eq_true_eq]
          split <;> omega
        have eY : iev q1 fillY = 64 * i := by
          unfold fillY
          rw [iev_ite, bev_eq, iev_add, iev_var, iev_var, eW, x2, x4]
          simp only [decide_eq_true_eq]
          split <;> omega
        have eC : (fillCs.map (CV.ev q1)) = bys (secA all i) := by
          unfold fillCs secA bys
          rw [List.map_map, List.map_map]
          refine List.map_congr_left fun j hj => ?_
          have hj := List.mem_range.1 hj
          show Value.int .u8 (iev q1 (.ite (.lt (.lit (j : Int)) fillM) (.hI 7 (.var 1) fillY j) (.lit 0))) = Value.int .u8 _
          rw [iev_ite, bev_lt, iev_hI, iev_lit, iev_lit, eM, eY, iev_var, x1, z7]
          simp only [decide_eq_true_eq]
          rcases Nat.lt_or_ge (64 * i + j) all.length with h | h
          · rw [if_pos (by omega), List.getElem?_eq_getElem h, show (64 * (i : Int)).toNat + j = 64 * i + j by omega, hcell _ _ (List.getElem?_eq_getElem h)]
            rfl
          · rw [if_neg (by omega), List.getElem?_eq_none h]; rfl
        have ei : IntKind.i64.wrap (IntKind.i64.wrap (valI (R1.cell a 1) + 2) + i) = L.frm + 2 + i := by
          rw [c1]
          show IntKind.i64.wrap (IntKind.i64.wrap (L.frm + 2) + i) = _
          rw [wrap_i64 (n := L.frm + 2) (by omega) (by omega), wrap_i64 (by omega) (by omega)]
        have wk1 : valIs (R1.cell a 1) (Kd.int .i64) = true := by rw [c1]; rfl
        have hrd : RdB (Hl.one (q1.i 22).toNat (.cells (bys (secA all i)).toArray 5 (0, 0))) (.slice (slP (q1.i 22) 0) 64 64) (secA all i) := by
          refine ⟨q1.i 22, 0, 64, by simp [secA], by omega, Or.inr ⟨p22, fun j z hz => ?_⟩⟩
          rw [Hl.one_cell, List.getElem?_toArray, bys_get, Int.toNat_zero, Nat.zero_add, hz]; rfl
        rw [x1, x2, x3, x4, x20, ew, eY, eM, eC, z7, G1.i 0 (by omega), v0, G1.h 8 (by omega), w8, Int.toNat_natCast, t1, t64, ep, ei]
        refine ⟨hx, by omega, by omega, by omega, by omega, ⟨Or.inr ⟨hx0, by omega, ?_⟩, by omega, by omega⟩, by omega, wk, wk1, ⟨dp, L.frm + 2 + i, _, secA all i, q1.h 21, _, D1, rfl, rfl, rfl, ?_, hrd⟩, fun q2 g2 ⟨F, ⟨p', i', u', bs', H', R', D', H2, hx, hH, hR, hD', hrd', hH2, hD2, hv⟩, _, _⟩ => ?_⟩
        · refine cells_bytes (bs := all.drop (64 * i)) (fun j z hz => ?_) (by rw [List.length_drop]; omega)
          rw [List.getElem?_drop] at hz
          rw [show (64 * (i : Int)).toNat + j = 64 * i + j by omega]
          exact hcell _ _ hz
        · rw [g1.h 21 (by omega)]; exact hD1
        · cases hx
          cases hH
          cases hR
          rw [g1.h 21 (by omega)] at hD'
          have e := hD'.uniq hD1
          subst e
          have e := hrd'.uniq hrd
          subst e
          simp only [Value.int.injEq, true_and, List.cons.injEq, and_true] at hv hH2
          rw [← hH2] at hD2
          have G2 : Agree 9 ρ q2 := G1.trans (g2.mono (by omega))
          have step : fillGo L.frm all f i D' = if (writeR D' (L.frm + 2 + i) (secA all i)).1 ≠ 0 then writeR D' (L.frm + 2 + i) (secA all i) else fillGo L.frm all (f - 1) (i + 1) (writeR D' (L.frm + 2 + i) (secA all i)).2 := by
            obtain ⟨k, rfl⟩ : ∃ k, f = k + 1 := ⟨f - 1, by omega⟩
            show (if 64 * i < all.length then _ else _) = _
            rw [if_pos (by omega)]; rfl
          refine ⟨fun h => out q2 23 _ _ (writeR D' (L.frm + 2 + i) (secA all i)) G2 ?_ hD2 hv, fun h => ?_⟩
          · rw [← hgo, step, if_pos (by rw [← hv]; exact h)]
          · have e20' : (assign q2 [⟨20, 0, .int .i64 (.wrap .i64 (.add (.var 20) (.lit 1)))⟩] [(21, some 23)]).i 20 = i + 1 := by
              show IntKind.i64.wrap (q2.i 20 + 1) = _
              rw [g2.i 20 (by omega), x20, wrap_i64 (by omega) (by omega)]
            refine ⟨⟨f - 1, i + 1, (writeR D' (L.frm + 2 + i) (secA all i)).2, by rw [e20']; omega, hD2, ?_, by omega, by omega⟩, by rw [e20']; omega⟩
            rw [← hgo, step, if_neg (by rw [← hv, h]; simp)]
      · cases hx
        cases hH
        have e := hD'.uniq hD1
        subst e
        simp only [Value.int.injEq, true_and, List.cons.injEq, and_true] at hv hH2
        rw [← hH2] at hD2
        refine out q1 22 _ _ (syncR D') (g.trans (g1.mono (by omega))) ?_ hD2 hv
        rw [← hgo]
        cases f with
        | zero => rfl
        | succ k =>
          show (if 64 * i < all.length then _ else _) = _
          rw [if_neg (by omega)]
end Go.Proofs.YtomdimlnggpgbaaGreatDoor.D
namespace Go.Proofs.YtomdimlnggpgbaaGreatDoor.D
open Go Go.Sx
def turnR (D : DM) (frm : Int) (h : List Int) : Int × DM :=
  if (writeR D (frm + (h.getD 0 0).tmod 2) (halfL h ++ halfL h)).1 ≠ 0 then writeR D (frm + (h.getD 0 0).tmod 2) (halfL h ++ halfL h) else syncR (writeR D (frm + (h.getD 0 0).tmod 2) (halfL h ++ halfL h)).2
def headOK (h : List Int) : Prop := h.length = 18 ∧ (0 ≤ h.getD 0 0 ∧ h.getD 0 0 < 18446744073709551616) ∧ 0 ≤ h.getD 1 0 ∧ h.getD 1 0 < 18446744073709551616
def turnS : Sx.Spec where
  fn := 132
  own := [.link 0 0]
  rd := [0]
  res := [.one (.int .i64)]
  pre := fun xs Hs Rs => ∃ p h H R dp sl L D, xs = [p, .agg (hdV h).toArray] ∧ Hs = [H] ∧ Rs = [R] ∧ LogRd R p dp sl L ∧ DiskAt H dp D ∧ headOK h
  post := fun xs Hs Rs v Hs' F => ∃ p h H R dp sl L D H', xs = [p, .agg (hdV h).toArray] ∧ Hs = [H] ∧ Rs = [R] ∧ LogRd R p dp sl L ∧ DiskAt H dp D ∧ headOK h ∧ Hs' = [H'] ∧ DiskAt H' dp (turnR D L.frm h).2 ∧ v = .int .i64 (turnR D L.frm h).1
theorem list18 {h : List Int} (hl : h.length = 18) : ∃ a b t, h = a :: b :: t ∧ t.length = 16 := by
  match h, hl with
  | a :: b :: t, hl => exact ⟨a, b, t, rfl, by simpa using hl⟩
theorem intsOf_hdV {h : List Int} (hl : h.length = 18) : intsOf (.agg (hdV h).toArray) = h := by
  obtain ⟨a, b, t, rfl, ht⟩ := list18 hl
  show ([Value.int .u64 a, Value.int .u64 b] ++ t.map (Value.int .u8)).map (fun c => valI (some c)) = _
  rw [List.map_append, List.map_map]
  show [a, b] ++ t.map id = _
  rw [List.map_id]; rfl
theorem hdV_inj {h k : List Int} (h1 : h.length = 18) (h2 : k.length = 18) (e : Value.agg (hdV h).toArray = Value.agg (hdV k).toArray) : h = k := by
  rw [← intsOf_hdV h1, ← intsOf_hdV h2, e]
theorem rowOK_hdV {h : List Int} (hl : h.length = 18) : rowOK (hdV h) (hdk.map kdOf) := by
  obtain ⟨a, b, t, rfl, ht⟩ := list18 hl
  exact ⟨by simp [valIs, kdOf], by simp [valIs, kdOf], rowOK_bys 16 _ ht⟩
theorem normsW_hdk (q : Env) (n : Nat) : ckNormsW n hdk q := ⟨trivial, trivial, normsW_bytes q 16 (n + 2)⟩
theorem half_pre {h : List Int} (hh : headOK h) : halfS.pre [.agg (hdV h).toArray] [] [] := by
  obtain ⟨c, _, _, ec⟩ := row_rep hdk 0 (hdV h) ⟨fun _ => 0, fun _ => false, fun _ => .empty, fun _ => .tuple #[], fun _ => Hl.none⟩ (rowOK_hdV hh.1)
  refine ⟨⟨c, ⟨normsW_hdk c 0, trivial⟩, ?_⟩, ?_⟩
  · show [Value.agg (hdV h).toArray] = [Value.agg ((ckCVs 0 hdk).map (CV.ev c)).toArray]
    rw [ec]
  · show (0 ≤ (intsOf (.agg (hdV h).toArray)).getD 0 0 ∧ (intsOf (.agg (hdV h).toArray)).getD 0 0 < _) ∧ 0 ≤ (intsOf (.agg (hdV h).toArray)).getD 1 0 ∧ (intsOf (.agg (hdV h).toArray)).getD 1 0 < _
    rw [intsOf_hdV hh.1]; exact hh.2
theorem halfL_length {h : List Int} (hl : h.length = 18) : (halfL h).length = 32 := by
  unfold halfL be8
  simp [hl]
def turnNd : Nd := .ext (.alloc 21) (.and (.pre (.call 2 22 [.sv (.agg (ckCVs 1 ([Ck.int .u64, Ck.int .u64] ++ List.replicate 16 (Ck.int .u8))))] [] [])) (.ext (.call 2 22 [.sv (.agg (ckCVs 1 ([Ck.int .u64, Ck.int .u64] ++ List.replicate 16 (Ck.int .u8))))] [] []) (.ext (.alloc 54) (.and (.e (.le (.lit 0) (.var 0))) (.and (.e (.his 20 (.var 0) (.lit 0) 0 .ptr)) (.and (.e (.his 20 (.var 0) (.lit 1) 0 (.int .i64))) (.and (.pre (.grow 55 5 1 1 (ckCVs 22 (List.replicate 32 (Ck.int .u8))) 32 32 (.cvs (ckCVs 22 (List.replicate 32 (Ck.int .u8))) 32))) (.ext (.grow 55 5 1 1 (ckCVs 22 (List.replicate 32 (Ck.int .u8))) 32 32 (.cvs (ckCVs 22 (List.replicate 32 (Ck.int .u8))) 32)) (.and (.pre (.call 0 57 [.sv (.one (.hptr (.hP 20 (.var 0) (.lit 0) 0 0) (.hP 20 (.var 0) (.lit 0) 0 1))), .sv (.one (.int .i64 (.wrap .i64 (.add (.hI 20 (.var 0) (.lit 1) 0) (.wrap .i64 (.rem (.var 1) (.lit 2))))))), .sv (.one (.sl (.var 55) (.lit 0) (.lit 64) (.var 56)))] [.hp 19 [] [.hP 20 (.var 0) (.lit 0) 0 0] []] [.hp 55 [] [.var 55] []])) (.ext (.call 0 57 [.sv (.one (.hptr (.hP 20 (.var 0) (.lit 0) 0 0) (.hP 20 (.var 0) (.lit 0) 0 1))), .sv (.one (.int .i64 (.wrap .i64 (.add (.hI 20 (.var 0) (.lit 1) 0) (.wrap .i64 (.rem (.var 1) (.lit 2))))))), .sv (.one (.sl (.var 55) (.lit 0) (.lit 64) (.var 56)))] [.hp 19 [] [.hP 20 (.var 0) (.lit 0) 0 0] []] [.hp 55 [] [.var 55] []]) (.and (.imp (.not (.eq (.var 57) (.lit 0))) (.post [.hp 57 [19] [.hP 20 (.var 0) (.lit 0) 0 0] [], .ro 20 [.var 0] false, .dead, .dead, .hp 55 [] [.var 55] []] (.sv (.one (.int .i64 (.var 57)))))) (.imp (.eq (.var 57) (.lit 0)) (.and (.pre (.call 1 59 [.sv (.one (.hptr (.hP 20 (.var 0) (.lit 0) 0 0) (.hP 20 (.var 0) (.lit 0) 0 1)))] [.hp 57 [19] [.hP 20 (.var 0) (.lit 0) 0 0] []] [])) (.ext (.call 1 59 [.sv (.one (.hptr (.hP 20 (.var 0) (.lit 0) 0 0) (.hP 20 (.var 0) (.lit 0) 0 1)))] [.hp 57 [19] [.hP 20 (.var 0) (.lit 0) 0 0] []] []) (.post [.hp 59 [57, 19] [.hP 20 (.var 0) (.lit 0) 0 0] [], .ro 20 [.var 0] false, .dead, .dead, .hp 55 [] [.var 55] []] (.sv (.one (.int .i64 (.var 59)))))))))))))))))))
def turnΓ : List Sx.Spec := [writeS, syncS, halfS]
theorem turnΓ_ok : ∀ t ∈ turnΓ, t.OK Tryz.prog := fun t ht => by
  simp only [turnΓ, List.mem_cons, List.mem_nil_iff, or_false] at ht
  rcases ht with rfl | rfl | rfl
  · exact writeS_ok
  · exact syncS_ok
  · exact halfS_ok
def turnW : Walk Tryz.prog turnΓ turnS.fn where
  Λ := noLoops
  args := [TP (.var 0) (.lit 0), .sv (.agg (ckCVs 1 hdk))]
  mem := [.hp 19 [] [.hP 20 (.var 0) (.lit 0) 0 0] [], .ro 20 [.var 0] false]
  nv := 21
  nd := turnNd
  ok := by kernel_rfl
theorem tg0 : turnΓ[0]? = some writeS := rfl
theorem tg1 : turnΓ[1]? = some syncS := rfl
theorem tg2 : turnΓ[2]? = some halfS := rfl
theorem tr2 : halfS.res = [.agg (u8s 32)] := rfl
theorem turnS_ok : turnS.OK Tryz.prog := by
  refine Spec.of_fn (Γ := turnΓ) turnΓ_ok ?_
  rintro xs Hs Rs hl1 hl2 ⟨p, h, H, R, dp, sl, L, D, rfl, rfl, rfl, ⟨a, rfl, hL⟩, hD, hh⟩
  obtain ⟨b0, b1, t, hht, htl⟩ := list18 hh.1
  have hg0 : h.getD 0 0 = b0 := by rw [hht]; rfl
  refine ⟨turnW, ⟨fun k => if k = 0 then (a : Int) else h.getD (k - 1) 0, fun _ => false, fun _ => .empty, fun _ => .tuple #[], fun k => if k = 19 then H else R⟩, fun _ _ => True, fun _ _ => 0, ?_, ⟨?_, ?_, ?_, ?_⟩, (fun _ h => nomatch h), ?_⟩
  · generalize hq : (⟨fun k => if k = 0 then (a : Int) else h.getD (k - 1) 0, fun _ => false, fun _ => .empty, fun _ => .tuple #[], fun k => if k = 19 then H else R⟩ : Env) = q
    show [Value.pointer (slP (q.i 0) 0), Value.agg ((ckCVs 1 hdk).map (CV.ev q)).toArray] = _
    have e0 : q.i 0 = a := by rw [← hq]; rfl
    have e1 : (ckCVs 1 hdk).map (CV.ev q) = hdV h := by
      rw [← hq, hht]
      match t, htl with
      | [a1, a2, a3, a4, a5, a6, a7, a8, a9, a10, a11, a12, a13, a14, a15, a16], _ => rfl
    rw [e0, dArg, e1]
  · intro r hr ho
    simp [turnW] at hr
    rcases hr with rfl | rfl
    · exact ⟨H, by simp, Hl.le_refl _⟩
    · cases ho
  · intro r hr ho
    simp [turnW] at hr
    rcases hr with rfl | rfl
    · cases ho
    · exact ⟨R, by simp, Hl.le_refl _⟩
  · simp [turnW, Res.own]
  · intro r hr
    simp [turnW] at hr
    rcases hr with rfl | rfl <;> trivial
  · show Nd.holds _ _ _ turnNd
    generalize hρ : (⟨fun k => if k = 0 then (a : Int) else h.getD (k - 1) 0, fun _ => false, fun _ => .empty, fun _ => .tuple #[], fun k => if k = 19 then H else R⟩ : Env) = ρ
    have v0 : ρ.i 0 = a := by rw [← hρ]; rfl
    have v1 : ρ.i 1 = b0 := by rw [← hρ, ← hg0]; rfl
    have w19 : ρ.h 19 = H := by rw [← hρ]; rfl
    have w20 : ρ.h 20 = R := by rw [← hρ]; rfl
    have eH : (ckCVs 1 hdk).map (CV.ev ρ) = hdV h := by
      rw [← hρ, hht]
      match t, htl with
      | [a1, a2, a3, a4, a5, a6, a7, a8, a9, a10, a11, a12, a13, a14, a15, a16], _ => rfl
    unfold turnNd
    simp only [Nd.holds, X.pre, X.rel, X.n, Src.ok, Src.len, Src.vals, true_and, and_true, if_true, Nat.mul_one, Nat.add_zero, Nat.reduceAdd, List.length_cons, List.length_nil, bT_tt, bT_ff, bT_bvar, bT_not, bT_and, bT_or, bT_ite, bT_lt, bT_le, bT_eq, bT_beq, bT_seq, bT_hB, bT_his, bT_hby, bT_hism, bT_hks, iev_lit, iev_var, iev_add, iev_sub, iev_mul, iev_wrap, iev_ite, iev_hI, iev_hP, iev_hmlen, sev_ite, sev_slit, sev_sof, sev_svar, TV.ev, SV.ev, CV.ev, List.map_cons, List.map_nil, Res.hl, cpTV, Cp.sv, Ck.cv, cpSVs, Cp.len, Ck.len, newHs_zero, newHs_one, roots_ne, tg0, tg1, tg2, fr0, fr1, tr2]
    intro q1 g1 _
    have t0 : Int.toNat 0 = 0 := rfl
    have t1 : Int.toNat 1 = 1 := rfl
    have t64 : Int.toNat 64 = 64 := rfl
    obtain ⟨da, s, m, es, clock, hdp, hDi⟩ := id hD
    have c0 : R.cell a 0 = some dp := by rw [hL.cell]; rfl
    have c1 : R.cell a 1 = some (.int .i64 L.frm) := by rw [hL.cell]; rfl
    obtain ⟨f0, f1⟩ := hL.1.frm
    have ep : Value.pointer (slP (valP (R.cell a 0) 0) (valP (R.cell a 0) 1)) = dp := by rw [c0, hdp]; exact dArg da
    have wk : valIs (R.cell a 0) Kd.ptr = true := by rw [c0, hdp]; rfl
    have wk1 : valIs (R.cell a 1) (Kd.int .i64) = true := by rw [c1]; rfl
    have ⟨hb0, hb1⟩ : 0 ≤ b0 ∧ b0 < 18446744073709551616 := by rw [← hg0]; exact hh.2.1
    have r0 := Int.tmod_nonneg 2 hb0
    have r1 := Int.tmod_lt_of_pos b0 (by decide : (0 : Int) < 2)
    have ei : IntKind.i64.wrap (valI (R.cell a 1) + IntKind.i64.wrap (b0.tmod 2)) = L.frm + (h.getD 0 0).tmod 2 := by
      rw [c1, hg0]
      show IntKind.i64.wrap (L.frm + IntKind.i64.wrap (b0.tmod 2)) = _
      rw [wrap_i64 (n := b0.tmod 2) (by omega) (by omega)]
      exact wrap_i64 (by omega) (by omega)
    have e1 : (ckCVs 1 ([Ck.int IntKind.u64, Ck.int IntKind.u64] ++ List.replicate 16 (Ck.int IntKind.u8))).map (CV.ev q1) = hdV h := by
      rw [← eH]
      exact CV.agreeL (g1.mono (by decide)) _ (ckCVs_upto hdk 1)
    rw [e1]
    refine ⟨half_pre hh, fun q2 g2 ⟨F2, hp2, _, _⟩ q3 g3 _ => ?_⟩
    have hp2 : Value.agg (List.map (CV.ev q2) (ckCVs 22 (u8s 32))).toArray = Value.agg (bys (halfL (intsOf (.agg (hdV h).toArray)))).toArray := hp2
    rw [intsOf_hdV hh.1] at hp2
    have hp2 : List.map (CV.ev q2) (ckCVs 22 (u8s 32)) = bys (halfL h) := by simpa using hp2
    have e3 : List.map (CV.ev q3) (ckCVs 22 (List.replicate 32 (Ck.int IntKind.u8))) = bys (halfL h) := by
      rw [← hp2]
      exact CV.agreeL (g3.mono (by decide)) _ (ckCVs_upto (u8s 32) 22)
    have G3 : Agree 21 ρ q3 := (g1.trans (g2.mono (by omega))).trans (g3.mono (by omega))
    rw [e3, G3.i 0 (by omega), v0, G3.h 20 (by omega), w20, Int.toNat_natCast, t0, t1]
    refine ⟨by omega, wk, wk1, ⟨by omega, by decide, by decide⟩, fun q4 g4 ⟨p55, p56, hO, _⟩ => ?_⟩
    have G4 : Agree 21 ρ q4 := G3.trans (g4.mono (by omega))
    have hbl : (halfL h ++ halfL h).length = 64 := by rw [List.length_append, halfL_length hh.1]
    have hO : OwB (q4.h 55) 5 (.slice (slP (q4.i 55) 0) (Int.toNat 64) (q4.i 56).toNat) (halfL h ++ halfL h) := by
      unfold OwB
      rw [hbl, bys_append]; exact hO
    rw [iev_rem, iev_var, iev_lit, G4.i 0 (by omega), v0, G4.i 1 (by omega), v1, G4.h 20 (by omega), w20, G4.h 19 (by omega), w19, Int.toNat_natCast, ep, ei]
    refine ⟨⟨dp, _, _, halfL h ++ halfL h, H, _, D, rfl, rfl, rfl, hD, hO.rd⟩, fun q5 g5 ⟨F, ⟨p', i', u', bs', H', R', D', H2, hx, hH, hR, hD', hrd', hH2, hD2, hv⟩, _, _⟩ => ?_⟩
    cases hx
    cases hH
    cases hR
    have e := hD'.uniq hD
    subst e
    have e := hrd'.uniq hO.rd
    subst e
    simp only [Value.int.injEq, true_and, List.cons.injEq, and_true] at hv hH2
    rw [← hH2] at hD2
    have G5 : Agree 21 ρ q5 := G4.trans (g5.mono (by omega))
    have out : ∀ (q' : Env) (n : Nat) (vs : List Nat) (t : Mem) (r : Int × DM), turnR D' L.frm h = r → DiskAt (q'.h n) dp r.2 → q'.i n = r.1 →
        postOf turnS [.pointer (some ⟨a, 0, none⟩), .agg (hdV h).toArray] [H] [R] q' (.hp n vs [.hP 20 (.var 0) (.lit 0) 0 0] [] :: t) (.sv (.one (.int .i64 (.var n)))) := by
      intro q' n vs t r hr h1 h2 _
      refine ⟨[[0]], [], rfl, rfl, ⟨⟨fun _ => q'.i n, fun _ => false, fun _ => .empty, fun _ => .tuple #[], fun _ => Hl.none⟩, rfl, trivial, trivial⟩, _, h, H, R, dp, sl, L, D', _, rfl, rfl, rfl, ⟨a, rfl, hL⟩, hD, hh, rfl, ?_, ?_⟩
      · show DiskAt (hls [q'.h n]) _ _
        rw [hls_one, hr]; exact h1
      · show Value.int .i64 (q'.i n) = _
        rw [h2, hr]
    rw [G5.i 0 (by omega), v0, G5.h 20 (by omega), w20, Int.toNat_natCast, ep]
    refine ⟨fun hne => out q5 57 _ _ _ ?_ hD2 hv, fun heq => ⟨⟨dp, _, _, rfl, rfl, hD2⟩, fun q6 g6 ⟨F, ⟨p', H', D2, H3, hx, hH, hD3, hH3, hD4, hv3⟩, _, _⟩ => ?_⟩⟩
    · unfold turnR
      rw [if_pos (by rw [← hv]; exact hne)]
    · cases hx
      cases hH
      have e := hD3.uniq hD2
      subst e
      simp only [Value.int.injEq, true_and, List.cons.injEq, and_true] at hv3 hH3
      rw [← hH3] at hD4
      refine out q6 59 _ _ _ ?_ hD4 hv3
      unfold turnR
      rw [if_neg (by rw [← hv, heq]; simp)]
end Go.Proofs.YtomdimlnggpgbaaGreatDoor.D
namespace Go.Proofs.YtomdimlnggpgbaaGreatDoor.D
open Go Go.Sx
def lObj (dp sl : Value) (L : LM) : Obj := .cells (lCells dp sl L).toArray 145 (0, 0)
def LogAt (H : Hl) (p dp : Value) (L : LM) (bs : List Int) : Prop := ∃ (a : Nat) (sl : Value) (HB : Hl), p = .pointer (some ⟨a, 0, none⟩) ∧ L.ok ∧ OwB HB 5 sl bs ∧ (Hl.one a (lObj dp sl L)).dis HB ∧ H = hls [Hl.one a (lObj dp sl L), HB]
theorem LogAt.parts {H : Hl} {p dp : Value} {L : LM} {bs : List Int} (h : LogAt H p dp L bs) : ∃ sl, LogRd H p dp sl L ∧ RdB H sl bs := by
  obtain ⟨a, sl, HB, rfl, hok, hO, hd, rfl⟩ := h
  refine ⟨sl, ⟨a, rfl, hok, ?_⟩, ?_⟩
  · exact Hl.un_left _ _ _ _ (Hl.one_self _ _)
  · obtain ⟨x, y, c, hv, hy, h⟩ := hO.rd
    refine ⟨x, y, c, hv, hy, h.imp id fun ⟨h0, h⟩ => ⟨h0, fun j z hz => ?_⟩⟩
    have hle : HB.le (hls [Hl.one a (lObj dp sl L), HB]) := by
      show HB.le ((Hl.one a (lObj dp sl L)).un (hls [HB]))
      rw [hls_one]; exact Hl.un_right hd
    have := h j z hz
    unfold Hl.cell at this ⊢
    split at this
    · rename_i o c' T fr ho
      rw [hle _ _ ho]; exact this
    · cases this
theorem LogAt.uniq {H : Hl} {p dp dp' : Value} {L L' : LM} {bs bs' : List Int} (h : LogAt H p dp L bs) (h' : LogAt H p dp' L' bs') : dp = dp' ∧ L = L' ∧ bs = bs' := by
  obtain ⟨sl, h1, h2⟩ := h.parts
  obtain ⟨sl', h1', h2'⟩ := h'.parts
  obtain ⟨e1, rfl, e3⟩ := h1.uniq h1'
  exact ⟨e1, e3, h2.uniq h2'⟩
theorem OwB.pre {F : Hl} {e : TypeId} {x l c : Int} {bs : List Int} (h : OwB F e (.slice (slP x 0) l.toNat c.toNat) bs) (hx : -1 ≤ x) {n : Int} (h0 : 0 ≤ n) (hn : n.toNat ≤ bs.length) : OwB F e (.slice (slP x 0) n.toNat c.toNat) (bs.take n.toNat) := by
  obtain ⟨hl, h⟩ := h
  have e1 : (bs.take n.toNat).length = n.toNat := by rw [List.length_take]; omega
  refine ⟨by rw [bys_length]; omega, ?_⟩
  rw [e1]
  rcases h with ⟨h, hb⟩ | ⟨g, cap, cur, h, hg, hle, hm, hs, ht⟩
  · simp only [Value.slice.injEq] at h
    refine Or.inl ⟨?_, by omega⟩
    rw [h.1, h.2.2, show n.toNat = 0 by omega]
  · simp only [Value.slice.injEq] at h
    refine Or.inr ⟨g, cap, cur, by rw [h.1, h.2.2], hg, by omega, hm, hs, ?_⟩
    have := congrArg (List.take n.toNat) ht
    rw [List.take_take] at this
    rw [Nat.mul_one]
    rw [show min n.toNat (bs.length * 1) = n.toNat by omega] at this
    rw [this]
    unfold bys
    rw [List.map_take]
def logK : List Ck := [.ptr, .int .i64, .int .i64, .int .u64, .int .u64] ++ List.replicate 16 (.int .u8)
def lInts (da : Nat) (L : LM) : List Int := [(da : Int), 0, L.frm, L.most, L.serial, L.size] ++ L.note
theorem list16 {l : List Int} (h : l.length = 16) : ∃ a1 a2 a3 a4 a5 a6 a7 a8 a9 a10 a11 a12 a13 a14 a15 a16, l = [a1, a2, a3, a4, a5, a6, a7, a8, a9, a10, a11, a12, a13, a14, a15, a16] := by
  match l, h with
  | [a1, a2, a3, a4, a5, a6, a7, a8, a9, a10, a11, a12, a13, a14, a15, a16], _ => exact ⟨a1, a2, a3, a4, a5, a6, a7, a8, a9, a10, a11, a12, a13, a14, a15, a16, rfl⟩
theorem logK_ev {q : Env} {n da : Nat} {L : LM} (hL : L.ok) (h : ∀ k, k < 22 → q.i (n + k) = (lInts da L).getD k 0) : (ckCVs n logK).map (CV.ev q) = [Value.pointer (some ⟨da, 0, none⟩), .int .i64 L.frm, .int .i64 L.most, .int .u64 L.serial, .int .u64 L.size] ++ bys L.note := by
  obtain ⟨a1, a2, a3, a4, a5, a6, a7, a8, a9, a10, a11, a12, a13, a14, a15, a16, hn⟩ := list16 hL.note
  have hq := Agree.refl 0 q
  have key : ∀ (q' : Env), (∀ k, k < 22 → q'.i k = (lInts da L).getD k 0) → (ckCVs 0 logK).map (CV.ev q') = [Value.pointer (some ⟨da, 0, none⟩), .int .i64 L.frm, .int .i64 L.most, .int .u64 L.serial, .int .u64 L.size] ++ bys L.note := by
    intro q' h
    have ag : Agree 22 (⟨fun k => (lInts da L).getD k 0, fun _ => false, fun _ => .empty, fun _ => .tuple #[], fun _ => Hl.none⟩ : Env) ⟨q'.i, fun _ => false, fun _ => .empty, fun _ => .tuple #[], fun _ => Hl.none⟩ := ⟨fun k hk => h k hk, fun _ _ => rfl, fun _ _ => rfl, fun _ _ => rfl, fun _ _ => rfl⟩
    have e1 : (ckCVs 0 logK).map (CV.ev q') = (ckCVs 0 logK).map (CV.ev ⟨q'.i, fun _ => false, fun _ => .empty, fun _ => .tuple #[], fun _ => Hl.none⟩) := rfl
    rw [e1, CV.agreeL ag _ (ckCVs_upto logK 0)]
    unfold lInts
    rw [hn]
    have ed : Value.pointer (slP (da : Int) 0) = .pointer (some ⟨da, 0, none⟩) := dArg da
    show [Value.pointer (slP (da : Int) 0)] ++ _ = _
    rw [ed]; rfl
  have := key ⟨fun k => q.i (n + k), q.b, q.s, q.v, q.h⟩ h
  rw [← this]
  rfl
theorem spec_of_fn2 {P : Program} {s : Sx.Spec} {Γ : List Sx.Spec} (hΓ : ∀ t ∈ Γ, t.OK P)
    (h : ∀ xs Hs Rs, Hs.length = s.own.length → Rs.length = s.rd.length → (∀ (p q : Nat) H K, p ≠ q → Hs[p]? = some H → Hs[q]? = some K → H.dis K) → s.pre xs Hs Rs → ∃ (W : Walk P Γ s.fn) (ρ : Env) (inv : Nat → Env → Prop) (mu : Nat → Env → Nat),
      W.args.map (TV.ev ρ) = xs ∧ Entry ρ W.mem Hs Rs ∧ Path ρ W.path ∧ W.nd.holds ⟨Γ, inv, mu, postOf s xs Hs Rs⟩ (fun _ => 0) ρ) : s.OK P := by
  intro w xs Hs Rs hl1 hl2 hs1 hs2 hd1 hd2 hpre
  obtain ⟨W, ρ, inv, mu, hx, hE, hp, hn⟩ := h xs Hs Rs hl1 hl2 hd1 hpre
  have hm := hE.mrel hs1 hs2 hd2
  have := fn_sound (C := ⟨Γ, inv, mu, postOf s xs Hs Rs⟩) hΓ (dk_ok (C := ⟨Γ, inv, mu, postOf s xs Hs Rs⟩) hΓ) W.ok hm hp hn
  rw [hx] at this
  refine this.mono ?_
  rintro e w' ⟨ρ', mem', r, rfl, hg, hm', hp'⟩
  obtain ⟨gs, f, hl, hok, ⟨ρ2, h2, h3⟩, hpost⟩ := hp' hm'.dis
  refine ⟨ρ2, gs.map (uni ρ' mem'), uni ρ' mem' f, by rw [h2], h3, Turned.of hm' hl hok, ?_⟩
  rw [← h2]; exact hpost
def bytesAt (D : DM) (frm : Int) (n : Int) : List Int := (D.now.drop (64 * (frm + 2).toNat)).take n.toNat
def loadS : Sx.Spec where
  fn := 78
  own := [.arg 0, .link 0 0]
  rd := []
  res := [.one (.int .i64)]
  pre := fun xs Hs Rs => ∃ p a HL HD dp L D, xs = [p] ∧ Hs = [HL, HD] ∧ p = .pointer (some ⟨a, 0, none⟩) ∧ LogIn HL a dp (.slice none 0 0) L ∧ DiskAt HD dp D ∧ D.gone = false ∧ 0 ≤ L.size ∧ 64 * (L.frm + 2) + L.size ≤ 64 * D.n
  post := fun xs Hs Rs v Hs' F => ∃ p a HL HD dp L D HL' HD', xs = [p] ∧ Hs = [HL, HD] ∧ p = .pointer (some ⟨a, 0, none⟩) ∧ LogIn HL a dp (.slice none 0 0) L ∧ DiskAt HD dp D ∧ Hs' = [HL', HD'] ∧ DiskAt HD' dp D ∧ LogAt HL' p dp L (bytesAt D L.frm L.size) ∧ v = .int .i64 0
def loadNd : Nd := .and (.inv 0 [⟨40, 0, .int .i64 (.lit 0)⟩, ⟨41, 0, .int .i64 (.lit (-1))⟩, ⟨43, 0, .int .i64 (.lit 0)⟩, ⟨44, 0, .int .i64 (.lit 0)⟩] [(45, some 24), (46, none)]) (.havoc 0 0 25 (.and (.e (.le (.lit 0) (.var 43))) (.and (.imp (.lt (.var 43) (.wrap .i64 (.var 6))) (.and (.pre (.call 0 47 [.sv (.one (.hptr (.var 1) (.var 2))), .sv (.one (.int .i64 (.wrap .i64 (.add (.wrap .i64 (.add (.var 3) (.lit 2))) (.var 40)))))] [.hp 45 [] [.var 1] []] [])) (.ext (.call 0 47 [.sv (.one (.hptr (.var 1) (.var 2))), .sv (.one (.int .i64 (.wrap .i64 (.add (.wrap .i64 (.add (.var 3) (.lit 2))) (.var 40)))))] [.hp 45 [] [.var 1] []] []) (.and (.imp (.not (.eq (.var 51) (.lit 0))) (.post [.blk 0 (ckCVs 1 ([Ck.ptr, Ck.int .i64, Ck.int .i64, Ck.int .u64, Ck.int .u64] ++ List.replicate 16 (Ck.int .u8)) ++ [.sl (.var 41) (.lit 0) (.var 43) (.var 44), .bool (.bvar 23)]) 145, .hp 47 [45] [.var 1] [], .hp 46 [] [.var 41] [], .hp 48 [] [.var 47] []] (.sv (.one (.int .i64 (.var 51)))))) (.imp (.eq (.var 51) (.lit 0)) (.and (.pre (.app 52 5 1 1 (.sl (.var 41) (.lit 0) (.var 43) (.var 44)) (.var 43) (.hp 46 [] [.var 41] []) (.seg 48 (.var 47) (.var 48) (.var 49)))) (.ext (.app 52 5 1 1 (.sl (.var 41) (.lit 0) (.var 43) (.var 44)) (.var 43) (.hp 46 [] [.var 41] []) (.seg 48 (.var 47) (.var 48) (.var 49))) (.back 0 0 [⟨40, 0, .int .i64 (.wrap .i64 (.add (.var 40) (.lit 1)))⟩, ⟨41, 0, .int .i64 (.var 52)⟩, ⟨43, 0, .int .i64 (.add (.var 43) (.var 49))⟩, ⟨44, 0, .int .i64 (.var 53)⟩] [(45, some 47), (46, some 52)])))))))) (.imp (.not (.lt (.var 43) (.wrap .i64 (.var 6)))) (.and (.e (.le (.lit (-1)) (.var 41))) (.and (.e (.le (.lit 0) (.var 6))) (.and (.e (.le (.var 6) (.var 44))) (.post [.blk 0 (ckCVs 1 ([Ck.ptr, Ck.int .i64, Ck.int .i64, Ck.int .u64, Ck.int .u64] ++ List.replicate 16 (Ck.int .u8)) ++ [.sl (.var 41) (.lit 0) (.var 6) (.var 44), .bool (.bvar 23)]) 145, .hp 45 [] [.var 1] [], .hp 46 [] [.var 41] []] (.sv (.one (.int .i64 (.lit 0))))))))))))
def loadΓ : List Sx.Spec := [readS]
theorem loadΓ_ok : ∀ t ∈ loadΓ, t.OK Tryz.prog := fun t ht => by
  rw [loadΓ, List.mem_singleton] at ht; subst ht; exact readS_ok
def loadW : Walk Tryz.prog loadΓ loadS.fn where
  Λ := fun p => if lp p then some ⟨0, [(3, TI .i64 (.var 40))], [(0, .blk 0 (ckCVs 1 logK ++ [.sl (.var 41) (.lit 0) (.var 43) (.var 44), .bool (.bvar 23)]) 145), (1, .hp 45 [] [.var 1] []), (2, .hp 46 [] [.var 41] [])], 47⟩ else none
  args := [TP (.var 0) (.lit 0)]
  mem := [.blk 0 (ckCVs 1 logK ++ [.sl (.lit (-1)) (.lit 0) (.lit 0) (.lit 0), .bool (.bvar 23)]) 145, .hp 24 [] [.var 1] []]
  nv := 25
  nd := loadNd
  ok := by kernel_rfl
theorem lg0 : loadΓ[0]? = some readS := rfl
theorem readR_in {D : DM} {i : Int} (h : D.has i = true) (hg : D.gone = false) : readR D i = (D.sector i, 0) := by
  unfold readR
  rw [if_neg (by simp [h]), if_neg (by simp [hg])]
def loadInv (D : DM) (L : LM) (dp : Value) (_ : Nat) (q : Env) : Prop := ∃ i : Nat, q.i 40 = i ∧ q.i 43 = 64 * i ∧ -1 ≤ q.i 41 ∧ 0 ≤ q.i 44 ∧ (i = 0 ∨ (64 * (i : Int) - 64 < L.size)) ∧ DiskAt (q.h 45) dp D ∧ OwB (q.h 46) 5 (.slice (slP (q.i 41) 0) (q.i 43).toNat (q.i 44).toNat) ((D.now.drop (64 * (L.frm + 2).toNat)).take (64 * i))
theorem loadS_ok : loadS.OK Tryz.prog := by
  refine spec_of_fn2 (Γ := loadΓ) loadΓ_ok ?_
  rintro xs Hs Rs hl1 hl2 hdis ⟨p, a, HL, HD, dp, L, D, rfl, rfl, rfl, hL, hD, hgone, hs0, hs1⟩
  have e1 : Rs = [] := List.length_eq_zero_iff.1 hl2
  subst e1
  obtain ⟨da, s, m, es, clock, hdp, hDi⟩ := id hD
  have hnl := hL.1.note
  obtain ⟨f0, f1⟩ := hL.1.frm
  have hnn := hDi.ok.n
  have hnow := hDi.ok.now
  have eB : ∀ (q : Env) (sl : CV), q.i 0 = a → (∀ k, k < 22 → q.i (1 + k) = (lInts da L).getD k 0) → q.b 23 = L.over → (Res.blk 0 (ckCVs 1 logK ++ [sl, .bool (.bvar 23)]) 145).hl q = Hl.one a (lObj dp (sl.ev q) L) := by
    intro q sl h0 h1 h2
    show Hl.one (q.i 0).toNat (.cells ((ckCVs 1 logK ++ [sl, .bool (.bvar 23)]).map (CV.ev q)).toArray _ (0, 0)) = _
    rw [List.map_append, logK_ev hL.1 h1, h0, Int.toNat_natCast]
    unfold lObj lCells
    rw [hdp, ← h2, List.append_assoc]; rfl
  refine ⟨loadW, ⟨fun k => if k = 0 then (a : Int) else (lInts da L).getD (k - 1) 0, fun _ => L.over, fun _ => .empty, fun _ => .tuple #[], fun _ => HD⟩, loadInv D L dp, fun _ q => (L.size - 64 * q.i 40 + 64).toNat, ?_, ⟨?_, ?_, ?_, ?_⟩, (fun _ h => nomatch h), ?_⟩
  · show [Value.pointer (slP (a : Int) 0)] = _; rw [dArg]
  · intro r hr ho
    simp only [loadW, List.mem_cons, List.mem_nil_iff, or_false] at hr
    rcases hr with rfl | rfl
    · refine ⟨HL, by simp, ?_⟩
      rw [eB _ _ rfl (fun k hk => by show (if 1 + k = 0 then (a : Int) else (lInts da L).getD (1 + k - 1) 0) = _; rw [if_neg (by omega), show 1 + k - 1 = k by omega]) rfl]
      intro b o hb
      obtain ⟨rfl, rfl⟩ := Hl.one_eq hb
      exact hL.2
    · exact ⟨HD, by simp, Hl.le_refl _⟩
  · intro r hr ho
    simp only [loadW, List.mem_cons, List.mem_nil_iff, or_false] at hr
    rcases hr with rfl | rfl <;> cases ho
  · have hd : HL.dis HD := hdis 0 1 _ _ (by decide) rfl rfl
    have hm : HL.mem a := by unfold Hl.mem; rw [hL.2]; rfl
    refine List.Pairwise.cons (fun r hr _ _ => ?_) (List.Pairwise.cons (fun r hr => by cases hr) List.Pairwise.nil)
    rw [List.mem_singleton] at hr
    subst hr
    exact Hl.one_dis.2 fun h => hd a ⟨hm, h⟩
  · intro r hr
    simp only [loadW, List.mem_cons, List.mem_nil_iff, or_false] at hr
    rcases hr with rfl | rfl
    · show (0 : Int) ≤ (a : Int); omega
    · trivial
  · show Nd.holds _ _ _ loadNd
    generalize hρ : (⟨fun k => if k = 0 then (a : Int) else (lInts da L).getD (k - 1) 0, fun _ => L.over, fun _ => .empty, fun _ => .tuple #[], fun _ => HD⟩ : Env) = ρ
    unfold loadNd
    simp only [Nd.holds, X.pre, X.rel, X.n, Src.ok, Src.len, Src.vals, true_and, and_true, if_true, Nat.mul_one, Nat.add_zero, Nat.reduceAdd, List.length_cons, List.length_nil, bT_tt, bT_ff, bT_bvar, bT_not, bT_and, bT_or, bT_ite, bT_lt, bT_le, bT_eq, bT_beq, bT_seq, bT_hB, bT_his, bT_hby, bT_hism, bT_hks, iev_lit, iev_var, iev_add, iev_sub, iev_mul, iev_wrap, iev_ite, iev_hI, iev_hP, iev_hmlen, sev_ite, sev_slit, sev_sof, sev_svar, TV.ev, SV.ev, CV.ev, List.map_cons, List.map_nil, Res.hl, cpTV, Cp.sv, Ck.cv, cpSVs, Cp.len, Ck.len, newHs_zero, newHs_one, roots_ne, lg0, rr0, rc0]
    have r0 : ρ.i 0 = a := by rw [← hρ]; rfl
    have rk : ∀ k, k < 22 → ρ.i (1 + k) = (lInts da L).getD k 0 := by
      intro k hk
      rw [← hρ]
      show (if 1 + k = 0 then (a : Int) else (lInts da L).getD (1 + k - 1) 0) = _
      rw [if_neg (by omega), show 1 + k - 1 = k by omega]
    have rb : ρ.b 23 = L.over := by rw [← hρ]
    have rh : ρ.h 24 = HD := by rw [← hρ]
    refine ⟨⟨0, rfl, rfl, Int.le_refl _, Int.le_refl _, Or.inl rfl, ?_, ⟨rfl, Or.inl ⟨rfl, rfl⟩⟩⟩, fun q g ⟨i, e40, e43, e41, e44, hi, hDq, hO⟩ => ?_⟩
    · show DiskAt (ρ.h 24) dp D
      rw [rh]; exact hD
    · have u1 : q.i 1 = da := by rw [g.i 1 (by omega)]; exact rk 0 (by omega)
      have u2 : q.i 2 = 0 := by rw [g.i 2 (by omega)]; exact rk 1 (by omega)
      have u3 : q.i 3 = L.frm := by rw [g.i 3 (by omega)]; exact rk 2 (by omega)
      have u6 : q.i 6 = L.size := by rw [g.i 6 (by omega)]; exact rk 5 (by omega)
      have ep : Value.pointer (slP (da : Int) 0) = dp := by rw [dArg, hdp]
      have es : IntKind.i64.wrap L.size = L.size := wrap_i64 (by omega) (by omega)
      rw [u1, u2, u3, u6, e40, e43, es, ep]
      refine ⟨by omega, fun hlt => ?_, fun hge => ⟨e41, hs0, ?_, fun hd => ?_⟩⟩
      · have ei : IntKind.i64.wrap (IntKind.i64.wrap (L.frm + 2) + i) = L.frm + 2 + i := by
          rw [wrap_i64 (n := L.frm + 2) (by omega) (by omega), wrap_i64 (by omega) (by omega)]
        rw [ei]
        have hh : D.has (L.frm + 2 + i) = true := by unfold DM.has; simp only [decide_eq_true_eq]; omega
        have hr := readR_in hh hgone
        have hsl := sector_length hDi.ok hh
        refine ⟨⟨dp, _, _, D, rfl, rfl, hDq⟩, fun q1 g1 ⟨F, ⟨p', i', H', D', H2, u, hx, hH, hD', hH2, hD2, hv, hOu⟩, hF, hn⟩ => ?_⟩
        cases hx
        cases hH
        have e := hD'.uniq hDq
        subst e
        have hF := hF trivial
        subst hF
        rw [hr] at hv hOu
        simp only [Value.tuple.injEq, Array.mk.injEq, List.cons.injEq, Value.int.injEq, true_and, and_true] at hv hH2
        obtain ⟨rfl, h51⟩ := hv
        obtain ⟨⟨n47, n48, n49, n50⟩, _⟩ := hn
        have n48 : 0 ≤ q1.i 48 := n48
        have n49 : 0 ≤ q1.i 49 := n49
        obtain ⟨e49, hc⟩ := hOu.rd.at n47 n48 n49
        have e49 : q1.i 49 = 64 := by rw [e49]; show (((D'.sector (L.frm + 2 + i)).length : Nat) : Int) = 64; rw [hsl]; rfl
        have hc : 0 ≤ q1.i 47 ∧ ∀ j z, (D'.sector (L.frm + 2 + i))[j]? = some z → (q1.h 48).cell (q1.i 47).toNat ((q1.i 48).toNat + j) = some (.int .u8 z) := by
          rcases hc with ⟨_, hc⟩ | hc
          · have hc : D'.sector (L.frm + 2 + i) = [] := hc
            rw [hc] at hsl; cases hsl
          · exact hc
        obtain ⟨p47, hc⟩ := hc
        have x43 : q1.i 43 = 64 * i := by rw [g1.i 43 (by omega), e43]
        rw [g1.h 46 (by omega), g1.i 41 (by omega), g1.i 44 (by omega), x43, e49]
        rw [e43] at hO
        have hTl : ((D'.now.drop (64 * (L.frm + 2).toNat)).take (64 * i)).length = 64 * i := by rw [List.length_take, List.length_drop]; omega
        have hO' : OwnsH (q.h 46) 5 1 (.slice (slP (q.i 41) 0) (64 * (i : Int)).toNat (q.i 44).toNat) (64 * (i : Int)).toNat (bys ((D'.now.drop (64 * (L.frm + 2).toNat)).take (64 * i))) := by
          unfold OwB at hO
          rw [hTl] at hO
          rw [show (64 * (i : Int)).toNat = 64 * i by omega] at hO ⊢
          exact hO
        refine ⟨fun h => absurd h51 h, fun _ => ⟨⟨⟨_, hO'⟩, by omega, Or.inl ⟨p47, n48, by omega, fun j hj => ?_⟩, by unfold maxLen; omega, by omega⟩, fun q2 g2 ⟨a1, a2, a3, _⟩ => ?_⟩⟩
        · have hj : j < (D'.sector (L.frm + 2 + i)).length := by have : (64 : Int).toNat = 64 := rfl; omega
          exact ⟨_, hc j _ (List.getElem?_eq_getElem hj), rfl⟩
        · have hseg : segVals (q1.h 48) (q1.i 47).toNat (q1.i 48).toNat (Int.toNat 64) = bys (D'.sector (L.frm + 2 + i)) := by
            unfold segVals
            apply List.ext_getElem?
            intro j
            rw [List.getElem?_map, bys_get]
            rcases Nat.lt_or_ge j 64 with hj | hj
            · rw [show (64 : Int).toNat = 64 from rfl, List.getElem?_range hj, Option.map_some, hc j _ (List.getElem?_eq_getElem (by omega)), List.getElem?_eq_getElem (by omega)]
              rfl
            · rw [List.getElem?_eq_none (by simpa using hj), List.getElem?_eq_none (by omega)]; rfl
          have hx := a3 _ hO'
          rw [hseg] at hx
          have hcat : (D'.now.drop (64 * (L.frm + 2).toNat)).take (64 * (i + 1)) = (D'.now.drop (64 * (L.frm + 2).toNat)).take (64 * i) ++ D'.sector (L.frm + 2 + i) := by
            rw [show 64 * (i + 1) = 64 * i + 64 by omega, List.take_add, List.drop_drop]
            unfold DM.sector
            rw [show 64 * (L.frm + 2).toNat + 64 * i = 64 * (L.frm + 2 + i).toNat by omega]
          have m40 : (assign q2 [⟨40, 0, .int .i64 (.wrap .i64 (.add (.var 40) (.lit 1)))⟩, ⟨41, 0, .int .i64 (.var 52)⟩, ⟨43, 0, .int .i64 (.add (.var 43) (.var 49))⟩, ⟨44, 0, .int .i64 (.var 53)⟩] [(45, some 47), (46, some 52)]).i 40 = i + 1 := by
            show IntKind.i64.wrap (q2.i 40 + 1) = _
            rw [g2.i 40 (by omega), g1.i 40 (by omega), e40, wrap_i64 (by omega) (by omega)]
          have m43 : (assign q2 [⟨40, 0, .int .i64 (.wrap .i64 (.add (.var 40) (.lit 1)))⟩, ⟨41, 0, .int .i64 (.var 52)⟩, ⟨43, 0, .int .i64 (.add (.var 43) (.var 49))⟩, ⟨44, 0, .int .i64 (.var 53)⟩] [(45, some 47), (46, some 52)]).i 43 = 64 * i + 64 := by
            show q2.i 43 + q2.i 49 = _
            rw [g2.i 43 (by omega), g2.i 49 (by omega), x43, e49]
          refine ⟨⟨i + 1, by rw [m40]; omega, by rw [m43]; omega, a1, a2, Or.inr (by omega), ?_, ?_⟩, by rw [m40]; omega⟩
          · show DiskAt (q2.h 47) dp D'
            rw [g2.h 47 (by omega), hH2]; exact hD2
          · rw [m43]
            show OwB (q2.h 52) _ (.slice (slP (q2.i 52) 0) (64 * (i : Int) + 64).toNat (q2.i 53).toNat) _
            rw [hcat]
            unfold OwB
            rw [bys_append, List.length_append, hTl, hsl]
            rw [show (64 * (i : Int)).toNat + Int.toNat 64 = 64 * i + 64 by have : (64 : Int).toNat = 64 := rfl; omega] at hx
            rw [show (64 * (i : Int) + 64).toNat = 64 * i + 64 by omega]
            exact hx
      · have := OwB.cap hO (by omega) e44
        omega
      · have hd02 := hd 0 2 _ _ (by decide) rfl rfl rfl
        have eb := eB q (.sl (.var 41) (.lit 0) (.var 6) (.var 44)) (by rw [g.i 0 (by omega), r0]) (fun k hk => by rw [g.i (1 + k) (by omega)]; exact rk k hk) (by rw [g.b 23 (by omega), rb])
        have ev : CV.ev q (.sl (.var 41) (.lit 0) (.var 6) (.var 44)) = .slice (slP (q.i 41) 0) L.size.toNat (q.i 44).toNat := by
          simp only [CV.ev, iev_var, iev_lit, u6]
        rw [ev] at eb
        refine ⟨[[0, 2], [1]], [], rfl, rfl, ⟨⟨fun _ => 0, fun _ => false, fun _ => .empty, fun _ => .tuple #[], fun _ => Hl.none⟩, rfl, trivial, trivial⟩, _, a, HL, HD, dp, L, D, _, _, rfl, rfl, rfl, hL, hD, rfl, ?_, ?_, rfl⟩
        · show DiskAt (hls [q.h 45]) _ _
          rw [hls_one]; exact hDq
        · refine ⟨a, .slice (slP (q.i 41) 0) L.size.toNat (q.i 44).toNat, q.h 46, rfl, hL.1, ?_, ?_, ?_⟩
          · rw [e43] at hO
            have hTl : ((D.now.drop (64 * (L.frm + 2).toNat)).take (64 * i)).length = 64 * i := by
              rw [List.length_take, List.length_drop]
              rcases hi with rfl | hi <;> omega
            have := OwB.pre hO e41 hs0 (by rw [hTl]; omega)
            rw [List.take_take, show min L.size.toNat (64 * i) = L.size.toNat by omega] at this
            exact this
          · rw [← eb]; exact hd02
          · exact congrArg (fun z => hls [z, q.h 46]) eb
end Go.Proofs.YtomdimlnggpgbaaGreatDoor.D
namespace Go.Proofs.YtomdimlnggpgbaaGreatDoor.D
open Go Go.Sx
theorem bigB_range (n c : Int) : 0 ≤ bigB n c ∧ bigB n c < 18446744073709551616 := by
  unfold bigB
  have h : ∀ x : Int, 0 ≤ IntKind.u64.wrap x ∧ IntKind.u64.wrap x < 18446744073709551616 := fun x => ⟨Int.emod_nonneg _ (by decide), Int.emod_lt_of_pos _ (by decide)⟩
  exact h _
theorem bigI_range (l : List Int) : 0 ≤ bigI l ∧ bigI l < 18446744073709551616 := by
  have h : ∀ (l : List Int) (n : Int), (0 ≤ n ∧ n < 18446744073709551616) → 0 ≤ l.foldl bigB n ∧ l.foldl bigB n < 18446744073709551616 := by
    intro l
    induction l with
    | nil => exact fun n h => h
    | cons c l ih => exact fun n _ => ih _ (bigB_range n c)
  exact h l 0 (by omega)
theorem lread_head {D : DM} (hD : D.ok) (frm : Int) {most : Int} (hm : 0 ≤ most) (place : Int) : headOK (lreadR D frm most place).1 ∧ (lreadR D frm most place).1.getD 1 0 ≤ most := by
  have hz : headOK zeros18 ∧ zeros18.getD 1 0 ≤ most := ⟨⟨rfl, ⟨Int.le_refl _, by decide⟩, Int.le_refl _, by decide⟩, hm⟩
  unfold lreadR
  split
  · exact hz
  · rename_i h
    have h : (readR D (frm + place)).2 = 0 := by simpa using h
    obtain ⟨_, _, e, hl⟩ := readR_ok hD h
    split
    · rename_i hg
      have r0 := bigI_range (((readR D (frm + place)).1.take 32).take 8)
      have r1 := bigI_range ((((readR D (frm + place)).1.take 32).drop 8).take 8)
      refine ⟨⟨?_, r0, r1⟩, hg.2.2⟩
      unfold headI
      rw [e]
      simp only [List.length_append, List.length_cons, List.length_nil, List.length_take, List.length_drop, hl]
      rfl
    · exact hz
theorem lread_code {D : DM} {frm most place : Int} (h : D.has (frm + place) = true) : (lreadR D frm most place).2 = if D.gone then 5 else 0 := by
  unfold lreadR readR
  rw [h]
  cases D.gone with
  | true => simp
  | false => simp; split <;> rfl
def headL (frm most : Int) (h : List Int) : LM := ⟨frm, most, h.getD 0 0, h.getD 1 0, h.drop 2, false⟩
def openE (D : DM) (frm n : Int) : Int := if n < 3 ∨ frm < 0 ∨ (D.n : Int) < frm ∨ (D.n : Int) - frm < n then 1 else if D.gone then 5 else 0
def openH (D : DM) (frm n : Int) : List Int := if (lreadR D frm (64 * (n - 2)) 0).1.getD 0 0 < (lreadR D frm (64 * (n - 2)) 1).1.getD 0 0 then (lreadR D frm (64 * (n - 2)) 1).1 else (lreadR D frm (64 * (n - 2)) 0).1
def openL (D : DM) (frm n : Int) : LM := headL frm (64 * (n - 2)) (openH D frm n)
def openB (D : DM) (frm n : Int) : List Int := bytesAt D frm (openL D frm n).size
def openS : Sx.Spec where
  fn := 44
  own := [.arg 0]
  rd := []
  res := [.one .ptr, .one (.int .i64)]
  links := [0]
  pre := fun xs Hs Rs => ∃ dp frm n H D, xs = [dp, .int .i64 frm, .int .i64 n] ∧ Hs = [H] ∧ DiskAt H dp D
  post := fun xs Hs Rs v Hs' F => ∃ dp frm n H D H' pv, xs = [dp, .int .i64 frm, .int .i64 n] ∧ Hs = [H] ∧ DiskAt H dp D ∧ Hs' = [H'] ∧ DiskAt H' dp D ∧ v = .tuple #[pv, .int .i64 (openE D frm n)] ∧ (openE D frm n = 0 → LogAt F pv dp (openL D frm n) (openB D frm n)) ∧ (openE D frm n ≠ 0 → pv = .pointer none)
def openNd : Nd := .and (.imp (.not (.lt (.var 2) (.lit 3))) (.and (.imp (.not (.lt (.var 1) (.lit 0))) (.and (.pre (.call 0 4 [.sv (.one (.hptr (.var 0) (.lit 0)))] [.hp 3 [] [.var 0] []] [])) (.ext (.call 0 4 [.sv (.one (.hptr (.var 0) (.lit 0)))] [.hp 3 [] [.var 0] []] []) (.and (.imp (.not (.lt (.var 4) (.var 1))) (.and (.pre (.call 0 6 [.sv (.one (.hptr (.var 0) (.lit 0)))] [.hp 4 [3] [.var 0] []] [])) (.ext (.call 0 6 [.sv (.one (.hptr (.var 0) (.lit 0)))] [.hp 4 [3] [.var 0] []] []) (.and (.imp (.lt (.wrap .i64 (.sub (.var 6) (.var 1))) (.var 2)) (.post [.hp 6 [4, 3] [.var 0] []] (.tup [.one (.hptr (.lit (-1)) (.lit 0)), .one (.int .i64 (.lit 1))]))) (.imp (.not (.lt (.wrap .i64 (.sub (.var 6) (.var 1))) (.var 2))) (.ext (.alloc 8) (.and (.pre (.call 1 9 [.sv (.one (.hptr (.var 8) (.lit 0))), .sv (.one (.int .u64 (.lit 0)))] [.hp 6 [4, 3] [.var 0] []] [.blk 8 ([.hptr (.var 0) (.lit 0), .int .i64 (.var 1), .int .i64 (.wrap .i64 (.mul (.lit 64) (.wrap .i64 (.sub (.var 2) (.lit 2))))), .int .u64 (.lit 0), .int .u64 (.lit 0)] ++ List.replicate 16 (CV.int .u8 (.lit 0)) ++ [.sl (.lit (-1)) (.lit 0) (.lit 0) (.lit 0), .bool .ff]) 145])) (.ext (.call 1 9 [.sv (.one (.hptr (.var 8) (.lit 0))), .sv (.one (.int .u64 (.lit 0)))] [.hp 6 [4, 3] [.var 0] []] [.blk 8 ([.hptr (.var 0) (.lit 0), .int .i64 (.var 1), .int .i64 (.wrap .i64 (.mul (.lit 64) (.wrap .i64 (.sub (.var 2) (.lit 2))))), .int .u64 (.lit 0), .int .u64 (.lit 0)] ++ List.replicate 16 (CV.int .u8 (.lit 0)) ++ [.sl (.lit (-1)) (.lit 0) (.lit 0) (.lit 0), .bool .ff]) 145]) (.ext (.alloc 28) (.and (.imp (.not (.eq (.var 27) (.lit 0))) (.post [.hp 9 [6, 4, 3] [.var 0] [], .dead, .dead] (.tup [.one (.hptr (.lit (-1)) (.lit 0)), .one (.int .i64 (.var 27))]))) (.imp (.eq (.var 27) (.lit 0)) (.and (.imp (.lt (.lit 0) (.var 9)) (.and (.pre (.call 1 29 [.sv (.one (.hptr (.var 8) (.lit 0))), .sv (.one (.int .u64 (.lit 1)))] [.hp 9 [6, 4, 3] [.var 0] []] [.blk 8 ([.hptr (.var 0) (.lit 0), .int .i64 (.var 1), .int .i64 (.wrap .i64 (.mul (.lit 64) (.wrap .i64 (.sub (.var 2) (.lit 2)))))] ++ ckCVs 9 ([Ck.int .u64, Ck.int .u64] ++ List.replicate 16 (Ck.int .u8)) ++ [.sl (.lit (-1)) (.lit 0) (.lit 0) (.lit 0), .bool .ff]) 145])) (.ext (.call 1 29 [.sv (.one (.hptr (.var 8) (.lit 0))), .sv (.one (.int .u64 (.lit 1)))] [.hp 9 [6, 4, 3] [.var 0] []] [.blk 8 ([.hptr (.var 0) (.lit 0), .int .i64 (.var 1), .int .i64 (.wrap .i64 (.mul (.lit 64) (.wrap .i64 (.sub (.var 2) (.lit 2)))))] ++ ckCVs 9 ([Ck.int .u64, Ck.int .u64] ++ List.replicate 16 (Ck.int .u8)) ++ [.sl (.lit (-1)) (.lit 0) (.lit 0) (.lit 0), .bool .ff]) 145]) (.ext (.alloc 48) (.and (.imp (.not (.eq (.var 47) (.lit 0))) (.post [.hp 29 [9, 6, 4, 3] [.var 0] [], .dead, .dead, .dead] (.tup [.one (.hptr (.lit (-1)) (.lit 0)), .one (.int .i64 (.var 47))]))) (.imp (.eq (.var 47) (.lit 0)) (.and (.imp (.lt (.var 9) (.var 29)) (.and (.pre (.call 2 49 [.sv (.one (.hptr (.var 8) (.lit 0)))] [.blk 8 ([.hptr (.var 0) (.lit 0), .int .i64 (.var 1), .int .i64 (.wrap .i64 (.mul (.lit 64) (.wrap .i64 (.sub (.var 2) (.lit 2)))))] ++ ckCVs 29 ([Ck.int .u64, Ck.int .u64] ++ List.replicate 16 (Ck.int .u8)) ++ [.sl (.lit (-1)) (.lit 0) (.lit 0) (.lit 0), .bool .ff]) 145, .hp 29 [9, 6, 4, 3] [.var 0] []] [])) (.ext (.call 2 49 [.sv (.one (.hptr (.var 8) (.lit 0)))] [.blk 8 ([.hptr (.var 0) (.lit 0), .int .i64 (.var 1), .int .i64 (.wrap .i64 (.mul (.lit 64) (.wrap .i64 (.sub (.var 2) (.lit 2)))))] ++ ckCVs 29 ([Ck.int .u64, Ck.int .u64] ++ List.replicate 16 (Ck.int .u8)) ++ [.sl (.lit (-1)) (.lit 0) (.lit 0) (.lit 0), .bool .ff]) 145, .hp 29 [9, 6, 4, 3] [.var 0] []] []) (.and (.imp (.not (.eq (.var 49) (.lit 0))) (.post [.hp 50 [29, 9, 6, 4, 3] [.var 0] [], .hp 49 [] [.var 8] [], .dead, .dead] (.tup [.one (.hptr (.lit (-1)) (.lit 0)), .one (.int .i64 (.var 49))]))) (.imp (.eq (.var 49) (.lit 0)) (.post [.hp 50 [29, 9, 6, 4, 3] [.var 0] [], .hp 49 [] [.var 8] [], .dead, .dead] (.tup [.one (.hptr (.var 8) (.lit 0)), .one (.int .i64 (.lit 0))]))))))) (.imp (.not (.lt (.var 9) (.var 29))) (.and (.pre (.call 2 49 [.sv (.one (.hptr (.var 8) (.lit 0)))] [.blk 8 ([.hptr (.var 0) (.lit 0), .int .i64 (.var 1), .int .i64 (.wrap .i64 (.mul (.lit 64) (.wrap .i64 (.sub (.var 2) (.lit 2)))))] ++ ckCVs 9 ([Ck.int .u64, Ck.int .u64] ++ List.replicate 16 (Ck.int .u8)) ++ [.sl (.lit (-1)) (.lit 0) (.lit 0) (.lit 0), .bool .ff]) 145, .hp 29 [9, 6, 4, 3] [.var 0] []] [])) (.ext (.call 2 49 [.sv (.one (.hptr (.var 8) (.lit 0)))] [.blk 8 ([.hptr (.var 0) (.lit 0), .int .i64 (.var 1), .int .i64 (.wrap .i64 (.mul (.lit 64) (.wrap .i64 (.sub (.var 2) (.lit 2)))))] ++ ckCVs 9 ([Ck.int .u64, Ck.int .u64] ++ List.replicate 16 (Ck.int .u8)) ++ [.sl (.lit (-1)) (.lit 0) (.lit 0) (.lit 0), .bool .ff]) 145, .hp 29 [9, 6, 4, 3] [.var 0] []] []) (.and (.imp (.not (.eq (.var 49) (.lit 0))) (.post [.hp 50 [29, 9, 6, 4, 3] [.var 0] [], .hp 49 [] [.var 8] [], .dead, .dead] (.tup [.one (.hptr (.lit (-1)) (.lit 0)), .one (.int .i64 (.var 49))]))) (.imp (.eq (.var 49) (.lit 0)) (.post [.hp 50 [29, 9, 6, 4, 3] [.var 0] [], .hp 49 [] [.var 8] [], .dead, .dead] (.tup [.one (.hptr (.var 8) (.lit 0)), .one (.int .i64 (.lit 0))])))))))))))))) (.imp (.not (.lt (.lit 0) (.var 9))) (.and (.pre (.call 1 29 [.sv (.one (.hptr (.var 8) (.lit 0))), .sv (.one (.int .u64 (.lit 1)))] [.hp 9 [6, 4, 3] [.var 0] []] [.blk 8 ([.hptr (.var 0) (.lit 0), .int .i64 (.var 1), .int .i64 (.wrap .i64 (.mul (.lit 64) (.wrap .i64 (.sub (.var 2) (.lit 2)))))] ++ ckCVs 9 ([Ck.int .u64, Ck.int .u64] ++ List.replicate 16 (Ck.int .u8)) ++ [.sl (.lit (-1)) (.lit 0) (.lit 0) (.lit 0), .bool .ff]) 145])) (.ext (.call 1 29 [.sv (.one (.hptr (.var 8) (.lit 0))), .sv (.one (.int .u64 (.lit 1)))] [.hp 9 [6, 4, 3] [.var 0] []] [.blk 8 ([.hptr (.var 0) (.lit 0), .int .i64 (.var 1), .int .i64 (.wrap .i64 (.mul (.lit 64) (.wrap .i64 (.sub (.var 2) (.lit 2)))))] ++ ckCVs 9 ([Ck.int .u64, Ck.int .u64] ++ List.replicate 16 (Ck.int .u8)) ++ [.sl (.lit (-1)) (.lit 0) (.lit 0) (.lit 0), .bool .ff]) 145]) (.ext (.alloc 48) (.and (.imp (.not (.eq (.var 47) (.lit 0))) (.post [.hp 29 [9, 6, 4, 3] [.var 0] [], .dead, .dead, .dead] (.tup [.one (.hptr (.lit (-1)) (.lit 0)), .one (.int .i64 (.var 47))]))) (.imp (.eq (.var 47) (.lit 0)) (.and (.imp (.lt (.var 9) (.var 29)) (.and (.pre (.call 2 49 [.sv (.one (.hptr (.var 8) (.lit 0)))] [.blk 8 ([.hptr (.var 0) (.lit 0), .int .i64 (.var 1), .int .i64 (.wrap .i64 (.mul (.lit 64) (.wrap .i64 (.sub (.var 2) (.lit 2)))))] ++ ckCVs 29 ([Ck.int .u64, Ck.int .u64] ++ List.replicate 16 (Ck.int .u8)) ++ [.sl (.lit (-1)) (.lit 0) (.lit 0) (.lit 0), .bool .ff]) 145, .hp 29 [9, 6, 4, 3] [.var 0] []] [])) (.ext (.call 2 49 [.sv (.one (.hptr (.var 8) (.lit 0)))] [.blk 8 ([.hptr (.var 0) (.lit 0), .int .i64 (.var 1), .int .i64 (.wrap .i64 (.mul (.lit 64) (.wrap .i64 (.sub (.var 2) (.lit 2)))))] ++ ckCVs 29 ([Ck.int .u64, Ck.int .u64] ++ List.replicate 16 (Ck.int .u8)) ++ [.sl (.lit (-1)) (.lit 0) (.lit 0) (.lit 0), .bool .ff]) 145, .hp 29 [9, 6, 4, 3] [.var 0] []] []) (.and (.imp (.not (.eq (.var 49) (.lit 0))) (.post [.hp 50 [29, 9, 6, 4, 3] [.var 0] [], .hp 49 [] [.var 8] [], .dead, .dead] (.tup [.one (.hptr (.lit (-1)) (.lit 0)), .one (.int .i64 (.var 49))]))) (.imp (.eq (.var 49) (.lit 0)) (.post [.hp 50 [29, 9, 6, 4, 3] [.var 0] [], .hp 49 [] [.var 8] [], .dead, .dead] (.tup [.one (.hptr (.var 8) (.lit 0)), .one (.int .i64 (.lit 0))]))))))) (.imp (.not (.lt (.var 9) (.var 29))) (.and (.pre (.call 2 49 [.sv (.one (.hptr (.var 8) (.lit 0)))] [.blk 8 ([.hptr (.var 0) (.lit 0), .int .i64 (.var 1), .int .i64 (.wrap .i64 (.mul (.lit 64) (.wrap .i64 (.sub (.var 2) (.lit 2)))))] ++ ckCVs 9 ([Ck.int .u64, Ck.int .u64] ++ List.replicate 16 (Ck.int .u8)) ++ [.sl (.lit (-1)) (.lit 0) (.lit 0) (.lit 0), .bool .ff]) 145, .hp 29 [9, 6, 4, 3] [.var 0] []] [])) (.ext (.call 2 49 [.sv (.one (.hptr (.var 8) (.lit 0)))] [.blk 8 ([.hptr (.var 0) (.lit 0), .int .i64 (.var 1), .int .i64 (.wrap .i64 (.mul (.lit 64) (.wrap .i64 (.sub (.var 2) (.lit 2)))))] ++ ckCVs 9 ([Ck.int .u64, Ck.int .u64] ++ List.replicate 16 (Ck.int .u8)) ++ [.sl (.lit (-1)) (.lit 0) (.lit 0) (.lit 0), .bool .ff]) 145, .hp 29 [9, 6, 4, 3] [.var 0] []] []) (.and (.imp (.not (.eq (.var 49) (.lit 0))) (.post [.hp 50 [29, 9, 6, 4, 3] [.var 0] [], .hp 49 [] [.var 8] [], .dead, .dead] (.tup [.one (.hptr (.lit (-1)) (.lit 0)), .one (.int .i64 (.var 49))]))) (.imp (.eq (.var 49) (.lit 0)) (.post [.hp 50 [29, 9, 6, 4, 3] [.var 0] [], .hp 49 [] [.var 8] [], .dead, .dead] (.tup [.one (.hptr (.var 8) (.lit 0)), .one (.int .i64 (.lit 0))])))))))))))))))))))))))))) (.imp (.lt (.var 4) (.var 1)) (.post [.hp 4 [3] [.var 0] []] (.tup [.one (.hptr (.lit (-1)) (.lit 0)), .one (.int .i64 (.lit 1))]))))))) (.imp (.lt (.var 1) (.lit 0)) (.post [.hp 3 [] [.var 0] []] (.tup [.one (.hptr (.lit (-1)) (.lit 0)), .one (.int .i64 (.lit 1))]))))) (.imp (.lt (.var 2) (.lit 3)) (.post [.hp 3 [] [.var 0] []] (.tup [.one (.hptr (.lit (-1)) (.lit 0)), .one (.int .i64 (.lit 1))])))
def openΓ : List Sx.Spec := [sectorsS, lreadS, loadS]
theorem openΓ_ok : ∀ t ∈ openΓ, t.OK Tryz.prog := fun t ht => by
  simp only [openΓ, List.mem_cons, List.mem_nil_iff, or_false] at ht
  rcases ht with rfl | rfl | rfl
  · exact sectorsS_ok
  · exact lreadS_ok
  · exact loadS_ok
def openW : Walk Tryz.prog openΓ openS.fn where
  Λ := noLoops
  args := [TP (.var 0) (.lit 0), TI .i64 (.var 1), TI .i64 (.var 2)]
  mem := [.hp 3 [] [.var 0] []]
  nv := 4
  nd := openNd
  ok := by kernel_rfl
theorem og0 : openΓ[0]? = some sectorsS := rfl
theorem og1 : openΓ[1]? = some lreadS := rfl
theorem og2 : openΓ[2]? = some loadS := rfl
theorem or0 : sectorsS.res = [.one (.int .i64)] := rfl
theorem or1 : lreadS.res = [.agg hdk, .one (.int .i64)] := rfl
theorem or2 : loadS.res = [.one (.int .i64)] := rfl
def oCs (l : List CV) : List CV := [.hptr (.var 0) (.lit 0), .int .i64 (.var 1), .int .i64 (.wrap .i64 (.mul (.lit 64) (.wrap .i64 (.sub (.var 2) (.lit 2)))))] ++ l ++ [.sl (.lit (-1)) (.lit 0) (.lit 0) (.lit 0), .bool .ff]
theorem oBlk {q : Env} {l : List CV} {da : Nat} {frm n : Int} {h : List Int} (h0 : q.i 0 = da) (h1 : q.i 1 = frm) (h2 : q.i 2 = n) (hn : 3 ≤ n ∧ n ≤ 16384) (hh : h.length = 18) (hl : l.map (CV.ev q) = hdV h) :
    (Res.blk 8 (oCs l) 145).hl q = Hl.one (q.i 8).toNat (lObj (.pointer (some ⟨da, 0, none⟩)) (.slice none 0 0) (headL frm (64 * (n - 2)) h)) := by
  show Hl.one (q.i 8).toNat (.cells ((oCs l).map (CV.ev q)).toArray _ (0, 0)) = _
  have e : (oCs l).map (CV.ev q) = lCells (.pointer (some ⟨da, 0, none⟩)) (.slice none 0 0) (headL frm (64 * (n - 2)) h) := by
    unfold oCs
    rw [List.map_append, List.map_append, hl]
    have ep : Value.pointer (slP (q.i 0) 0) = .pointer (some ⟨da, 0, none⟩) := by rw [h0, dArg]
    have em : IntKind.i64.wrap (64 * IntKind.i64.wrap (q.i 2 - 2)) = 64 * (n - 2) := by
      rw [h2, wrap_i64 (n := n - 2) (by omega) (by omega), wrap_i64 (by omega) (by omega)]
    show [Value.pointer (slP (q.i 0) 0), Value.int .i64 (q.i 1), Value.int .i64 (IntKind.i64.wrap (64 * IntKind.i64.wrap (q.i 2 - 2)))] ++ hdV h ++ [Value.slice (slP (-1) 0) 0 0, Value.bool false] = _
    rw [ep, em, h1, slP_nil]
    unfold lCells headL hdV
    simp only [List.cons_append, List.nil_append, List.append_assoc]
  rw [e]; rfl
theorem hd_first {q : Env} {n : Nat} {h : List Int} (e : (ckCVs n hdk).map (CV.ev q) = hdV h) : q.i n = h.getD 0 0 := by
  have := congrArg (fun l => l[0]?) e
  simpa [hdk, ckCVs, Ck.cv, CV.ev, hdV, iev_var] using this
theorem headL_ok {frm n : Int} {h : List Int} (hf : 0 ≤ frm ∧ frm ≤ 16384) (hn : 3 ≤ n ∧ n ≤ 16384) (hh : h.length = 18) : (headL frm (64 * (n - 2)) h).ok := ⟨hf, ⟨by show 0 ≤ 64 * (n - 2); omega, by show 64 * (n - 2) ≤ _; omega⟩, by show (h.drop 2).length = 16; rw [List.length_drop]; omega⟩
theorem openS_ok : openS.OK Tryz.prog := by
  refine Spec.of_fn (Γ := openΓ) openΓ_ok ?_
  rintro xs Hs Rs hl1 hl2 ⟨dp, frm, n, H, D, rfl, rfl, hD⟩
  have e1 : Rs = [] := List.length_eq_zero_iff.1 hl2
  subst e1
  obtain ⟨da, s, m, es, clock, hdp, hDi⟩ := id hD
  have hDn := hDi.ok.n
  refine ⟨openW, envI [da, frm, n] false [Hl.none, Hl.none, Hl.none, H], fun _ _ => True, fun _ _ => 0, ?_, ⟨?_, ?_, ?_, ?_⟩, (fun _ h => nomatch h), ?_⟩
  · show [Value.pointer (slP (da : Int) 0), Value.int .i64 frm, Value.int .i64 n] = _; rw [dArg, hdp]
  · intro r hr ho
    simp [openW] at hr
    subst hr
    exact ⟨H, by simp, Hl.le_refl _⟩
  · intro r hr ho
    simp [openW] at hr
    subst hr; cases ho
  · simp [openW]
  · intro r hr
    simp [openW] at hr
    subst hr; trivial
  · show Nd.holds _ _ _ openNd
    generalize hρ : envI [(da : Int), frm, n] false [Hl.none, Hl.none, Hl.none, H] = ρ
    have v0 : ρ.i 0 = da := by rw [← hρ]; rfl
    have v1 : ρ.i 1 = frm := by rw [← hρ]; rfl
    have v2 : ρ.i 2 = n := by rw [← hρ]; rfl
    have w3 : ρ.h 3 = H := by rw [← hρ]; rfl
    have ep : Value.pointer (slP (da : Int) 0) = dp := by rw [dArg, hdp]
    have bad : ∀ (q : Env) (k : Nat) (vs : List Nat) (t : Mem) (x : E) (e : Int), DiskAt (q.h k) dp D → iev q x = e → openE D frm n = e → e ≠ 0 →
        postOf openS [dp, .int .i64 frm, .int .i64 n] [H] [] q (.hp k vs [.var 0] [] :: t) (.tup [.one (.hptr (.lit (-1)) (.lit 0)), .one (.int .i64 x)]) := by
      intro q k vs t x e hq hx he hne _
      refine ⟨[[0]], [], rfl, rfl, ⟨⟨fun j => [-1, 0, e].getD j 0, fun _ => false, fun _ => .empty, fun _ => .tuple #[], fun _ => Hl.none⟩, ?_, ⟨by show (-1 : Int) ≤ -1; omega, Int.le_refl _⟩, trivial, trivial⟩, dp, frm, n, H, D, _, .pointer none, rfl, rfl, hD, rfl, ?_, ?_, fun h => absurd (he.symm.trans h) hne, fun _ => rfl⟩
      · subst hx; rfl
      · show DiskAt (hls [q.h k]) _ _
        rw [hls_one]; exact hq
      · rw [he, ← hx]; rfl
    unfold openNd
    simp only [Nd.holds, X.pre, X.rel, X.n, Src.ok, Src.len, Src.vals, true_and, and_true, if_true, Nat.mul_one, Nat.add_zero, Nat.reduceAdd, List.length_cons, List.length_nil, bT_tt, bT_ff, bT_bvar, bT_not, bT_and, bT_or, bT_ite, bT_lt, bT_le, bT_eq, bT_beq, bT_seq, bT_hB, bT_his, bT_hby, bT_hism, bT_hks, iev_lit, iev_var, iev_add, iev_sub, iev_mul, iev_wrap, iev_ite, iev_hI, iev_hP, iev_hmlen, sev_ite, sev_slit, sev_sof, sev_svar, TV.ev, SV.ev, CV.ev, List.map_cons, List.map_nil, Res.hl, cpTV, Cp.sv, Ck.cv, cpSVs, Cp.len, Ck.len, newHs_zero, newHs_one, roots_ne, og0, og1, og2, or0, or1, or2]
    rw [v0, v1, v2, w3, ep]
    refine ⟨fun h3 => ⟨fun h0 => ⟨⟨dp, H, D, rfl, rfl, hD⟩, fun q1 g1 ⟨F, ⟨p', H', D', H2, hx, hH, hD', hH2, hD2, hv⟩, _, _⟩ => ?_⟩, fun h0 => bad _ 3 _ _ _ 1 (by rw [w3]; exact hD) (iev_lit _ _) (by unfold openE; rw [if_pos (Or.inr (Or.inl h0))]) (by decide)⟩, fun h3 => bad _ 3 _ _ _ 1 (by rw [w3]; exact hD) (iev_lit _ _) (by unfold openE; rw [if_pos (Or.inl h3)]) (by decide)⟩
    cases hx
    cases hH
    have e := hD'.uniq hD
    subst e
    simp only [Value.int.injEq, true_and, List.cons.injEq, and_true] at hv hH2
    rw [← hH2] at hD2
    have hv : q1.i 4 = D'.n := hv
    rw [g1.i 0 (by omega), g1.i 1 (by omega), v0, v1, hv, ep]
    refine ⟨fun hlt => ⟨⟨dp, _, D', rfl, rfl, hD2⟩, fun q2 g2 ⟨F, ⟨p', H', D1, H3, hx, hH, hD', hH3, hD3, hv3⟩, _, _⟩ => ?_⟩, fun hlt => bad _ 4 _ _ _ 1 hD2 (iev_lit _ _) (by unfold openE; rw [if_pos (Or.inr (Or.inr (Or.inl hlt)))]) (by decide)⟩
    cases hx
    cases hH
    have e := hD'.uniq hD2
    subst e
    simp only [Value.int.injEq, true_and, List.cons.injEq, and_true] at hv3 hH3
    rw [← hH3] at hD3
    have hv3 : q2.i 6 = D1.n := hv3
    have h3 : 3 ≤ n := by omega
    have h0 : 0 ≤ frm := by omega
    have hlt : frm ≤ D1.n := by omega
    have esub : IntKind.i64.wrap ((D1.n : Int) - frm) = D1.n - frm := wrap_i64 (by omega) (by omega)
    rw [g2.i 1 (by omega), g2.i 2 (by omega), g1.i 1 (by omega), g1.i 2 (by omega), v1, v2, hv3, esub]
    refine ⟨fun hr => bad _ 6 _ _ _ 1 hD3 (iev_lit _ _) (by unfold openE; rw [if_pos (Or.inr (Or.inr (Or.inr hr)))]) (by decide), fun hr q3 g3 p8 => ?_⟩
    have hr : n ≤ D1.n - frm := by omega
    have G3 : Agree 4 ρ q3 := (g1.trans (g2.mono (by omega))).trans (g3.mono (by omega))
    have hn16 : 3 ≤ n ∧ n ≤ 16384 := ⟨h3, by omega⟩
    have hf16 : 0 ≤ frm ∧ frm ≤ 16384 := ⟨h0, by omega⟩
    have hm0 : 0 ≤ 64 * (n - 2) := by omega
    have ep8 : ∀ q : Env, 0 ≤ q.i 8 → Value.pointer (slP (q.i 8) 0) = .pointer (some ⟨(q.i 8).toNat, 0, none⟩) := fun q h => by rw [slP_pos h]; rfl
    have rd : ∀ (q : Env) (l : List CV) (h : List Int), Agree 4 ρ q → h.length = 18 → l.map (CV.ev q) = hdV h → 0 ≤ q.i 8 →
        LogIn ((Res.blk 8 (oCs l) 145).hl q) (q.i 8).toNat dp (.slice none 0 0) (headL frm (64 * (n - 2)) h) := by
      intro q l h hq hh hl h8
      refine ⟨headL_ok hf16 hn16 hh, ?_⟩
      rw [oBlk (by rw [hq.i 0 (by omega), v0]) (by rw [hq.i 1 (by omega), v1]) (by rw [hq.i 2 (by omega), v2]) hn16 hh hl, hdp]
      exact Hl.one_self _ _
    have call : ∀ (q : Env) (l : List CV) (h : List Int) (k : Nat) (place : Int), Agree 4 ρ q → h.length = 18 → l.map (CV.ev q) = hdV h → 0 ≤ q.i 8 → DiskAt (q.h k) dp D1 → (place = 0 ∨ place = 1) →
        lreadS.pre [.pointer (slP (q.i 8) 0), .int .u64 place] [q.h k] [(Res.blk 8 (oCs l) 145).hl q] := by
      intro q l h k place hq hh hl h8 hd hp
      exact ⟨_, place, _, _, dp, _, _, D1, rfl, rfl, rfl, ⟨_, ep8 q h8, rd q l h hq hh hl h8⟩, hd, hp⟩
    have back : ∀ (q : Env) (l : List CV) (h : List Int) (k : Nat) (place : Int) (v : Value) (H' F : Hl), Agree 4 ρ q → h.length = 18 → l.map (CV.ev q) = hdV h → 0 ≤ q.i 8 → DiskAt (q.h k) dp D1 →
        lreadS.post [.pointer (slP (q.i 8) 0), .int .u64 place] [q.h k] [(Res.blk 8 (oCs l) 145).hl q] v [H'] F →
        DiskAt H' dp D1 ∧ v = .tuple #[.agg (hdV (lreadR D1 frm (64 * (n - 2)) place).1).toArray, .int .i64 (lreadR D1 frm (64 * (n - 2)) place).2] := by
      intro q l h k place v H' F hq hh hl h8 hd ⟨p', place', Hx, R, dp', sl', L', Dx, H'', hx, hH, hR, hL, hDx, hH', hDy, hvq⟩
      cases hx
      cases hH
      have hR : (Res.blk 8 (oCs l) 145).hl q = R := by simpa using hR
      subst hR
      obtain ⟨e1, e2, e3⟩ := hL.uniq ⟨_, ep8 q h8, rd q l h hq hh hl h8⟩
      subst e1 e2 e3
      have e := hDx.uniq hd
      subst e
      simp only [List.cons.injEq, and_true] at hH'
      subst hH'
      exact ⟨hDy, hvq⟩
    have inr : ∀ place : Int, place = 0 ∨ place = 1 → D1.has (frm + place) = true := by
      intro place hp
      unfold DM.has
      simp only [decide_eq_true_eq]
      omega
    have oE : openE D1 frm n = if D1.gone then 5 else 0 := by
      unfold openE
      rw [if_neg (by omega)]
    have leaf : ∀ (q : Env) (l : List CV) (h : List Int), Agree 4 ρ q → headOK h → h.getD 1 0 ≤ 64 * (n - 2) → l.map (CV.ev q) = hdV h → 0 ≤ q.i 8 → DiskAt (q.h 29) dp D1 → D1.gone = false → openH D1 frm n = h →
        (loadS.pre [.pointer (slP (q.i 8) 0)] [(Res.blk 8 (oCs l) 145).hl q, q.h 29] [] ∧
        ∀ q' : Env, Agree 49 q q' → (∃ F, loadS.post [.pointer (slP (q.i 8) 0)] [(Res.blk 8 (oCs l) 145).hl q, q.h 29] [] (.int .i64 (q'.i 49)) (newHs q' 49 2) F ∧ (cpRoots 0 [Cp.one (Ck.int .i64)] ≠ [] → q'.h 51 = F) ∧ cpNorms 49 [Cp.one (Ck.int .i64)] q') →
          (¬ q'.i 49 = 0 → postOf openS [dp, .int .i64 frm, .int .i64 n] [H] [] q' [.hp 50 [29, 9, 6, 4, 3] [.var 0] [], .hp 49 [] [.var 8] [], .dead, .dead] (.tup [.one (.hptr (.lit (-1)) (.lit 0)), .one (.int .i64 (.var 49))])) ∧
          (q'.i 49 = 0 → postOf openS [dp, .int .i64 frm, .int .i64 n] [H] [] q' [.hp 50 [29, 9, 6, 4, 3] [.var 0] [], .hp 49 [] [.var 8] [], .dead, .dead] (.tup [.one (.hptr (.var 8) (.lit 0)), .one (.int .i64 (.lit 0))]))) := by
      intro q l h hq hh hmost hl h8 hd hgone hoH
      refine ⟨⟨_, _, _, _, dp, _, D1, rfl, rfl, ep8 q h8, rd q l h hq hh.1 hl h8, hd, hgone, hh.2.2.1, ?_⟩, fun q' g' ⟨F, ⟨p', a', HL, HDk, dp', L', Dx, HL', HD', hx, hH, hp, hL, hDx, hH', hDy, hAt, hvq⟩, _, _⟩ => ?_⟩
      · show 64 * (frm + 2) + h.getD 1 0 ≤ 64 * (D1.n : Int)
        omega
      · have hx : Value.pointer (slP (q.i 8) 0) = p' := by simpa using hx
        subst hx
        have hH : (Res.blk 8 (oCs l) 145).hl q = HL ∧ q.h 29 = HDk := by simpa using hH
        obtain ⟨hH1, hH2⟩ := hH
        subst hH1 hH2
        have e := hDx
        obtain ⟨e1, e2, e3⟩ := LogRd.uniq ⟨a', hp, hL⟩ ⟨_, ep8 q h8, rd q l h hq hh.1 hl h8⟩
        subst e1 e3
        have e := hDx.uniq hd
        subst e
        have hH' : q'.h 49 = HL' ∧ q'.h 50 = HD' := by
          have h1 : [q'.h 49, q'.h 50] = [HL', HD'] := hH'
          simpa using h1
        obtain ⟨h49, h50⟩ := hH'
        simp only [Value.int.injEq, true_and] at hvq
        refine ⟨fun h => absurd hvq h, fun _ _ => ⟨[[0]], [1], rfl, rfl, ⟨⟨fun j => [q'.i 8, 0, 0].getD j 0, fun _ => false, fun _ => .empty, fun _ => .tuple #[], fun _ => Hl.none⟩, rfl, ⟨?_, Int.le_refl _⟩, trivial, trivial⟩, _, frm, n, H, Dx, _, Value.pointer (slP (q'.i 8) 0), rfl, rfl, hD, rfl, ?_, ?_, fun _ => ?_, fun h => absurd (by rw [oE, hgone]; rfl) h⟩⟩
        · show -1 ≤ q'.i 8
          rw [g'.i 8 (by omega)]; omega
        · show DiskAt (hls [q'.h 50]) _ _
          rw [hls_one, h50]; exact hDy
        · rw [oE, hgone]; rfl
        · show LogAt (hls [q'.h 49]) _ _ _ _
          rw [hls_one, h49, g'.i 8 (by omega)]
          unfold openB openL
          rw [hoH]
          exact hAt
    have z18 : ∀ q : Env, ([CV.int .u64 (.lit 0), CV.int .u64 (.lit 0)] ++ List.replicate 16 (CV.int .u8 (.lit 0))).map (CV.ev q) = hdV zeros18 := fun q => rfl
    obtain ⟨ok0, le0⟩ := lread_head hDi.ok frm hm0 0
    obtain ⟨ok1, le1⟩ := lread_head hDi.ok frm hm0 1
    have hD6 : DiskAt (q3.h 6) dp D1 := by rw [g3.h 6 (by omega)]; exact hD3
    refine ⟨call q3 _ zeros18 6 0 G3 rfl (z18 q3) p8 hD6 (Or.inl rfl), fun q4 g4 ⟨F, hp4, _, _⟩ q5 g5 _ => ?_⟩
    obtain ⟨hD9, hv4⟩ := back q3 _ zeros18 6 0 _ _ _ G3 rfl (z18 q3) p8 hD6 hp4
    simp only [Value.tuple.injEq, Array.mk.injEq, List.cons.injEq, Value.int.injEq, Value.agg.injEq, true_and, and_true] at hv4
    obtain ⟨hh4, hc4⟩ := hv4
    have hc4 : q4.i 27 = (lreadR D1 frm (64 * (n - 2)) 0).2 := hc4
    rw [lread_code (inr 0 (Or.inl rfl))] at hc4
    have G5 : Agree 4 ρ q5 := (G3.trans (g4.mono (by omega))).trans (g5.mono (by omega))
    have hh5 : List.map (CV.ev q5) (ckCVs 9 hdk) = hdV (lreadR D1 frm (64 * (n - 2)) 0).1 := by
      rw [CV.agreeL (g5.mono (by decide)) _ (ckCVs_upto hdk 9)]
      exact hh4
    have p85 : 0 ≤ q5.i 8 := by rw [g5.i 8 (by omega), g4.i 8 (by omega)]; exact p8
    have hD95 : DiskAt (q5.h 9) dp D1 := by rw [g5.h 9 (by omega)]; exact hD9
    refine ⟨fun h27 => bad q5 9 _ _ _ 5 hD95 (by rw [iev_var, g5.i 27 (by omega), hc4, if_pos]; exact Classical.byContradiction fun hg => h27 (by rw [g5.i 27 (by omega), hc4, if_neg hg])) (by rw [oE, if_pos]; exact Classical.byContradiction fun hg => h27 (by rw [g5.i 27 (by omega), hc4, if_neg hg])) (by decide), fun h27 => ?_⟩
    have hgone : D1.gone = false := by
      cases hg : D1.gone with
      | false => rfl
      | true => rw [g5.i 27 (by omega), hc4, hg] at h27; cases h27
    have mid : ∀ (q6 : Env), Agree 29 q5 q6 → ∀ F, lreadS.post [.pointer (slP (q5.i 8) 0), .int .u64 1] [q5.h 9] [(Res.blk 8 (oCs (ckCVs 9 hdk)) 145).hl q5] (.tuple #[.agg (List.map (CV.ev q6) (ckCVs 29 hdk)).toArray, .int .i64 (q6.i 47)]) [q6.h 29] F →
        ∀ q7, Agree 48 q6 q7 → q7.i 47 = 0 ∧ Agree 4 ρ q7 ∧ 0 ≤ q7.i 8 ∧ DiskAt (q7.h 29) dp D1 ∧ List.map (CV.ev q7) (ckCVs 29 hdk) = hdV (lreadR D1 frm (64 * (n - 2)) 1).1 ∧ List.map (CV.ev q7) (ckCVs 9 hdk) = hdV (lreadR D1 frm (64 * (n - 2)) 0).1 := by
      intro q6 g6 F hp6 q7 g7
      obtain ⟨hD29, hv6⟩ := back q5 _ _ 9 1 _ _ _ G5 ok0.1 hh5 p85 hD95 hp6
      simp only [Value.tuple.injEq, Array.mk.injEq, List.cons.injEq, Value.int.injEq, Value.agg.injEq, true_and, and_true] at hv6
      obtain ⟨hh6, hc6⟩ := hv6
      rw [lread_code (inr 1 (Or.inr rfl)), hgone] at hc6
      refine ⟨by rw [g7.i 47 (by omega), hc6]; rfl, (G5.trans (g6.mono (by omega))).trans (g7.mono (by omega)), by rw [g7.i 8 (by omega), g6.i 8 (by omega)]; exact p85, by rw [g7.h 29 (by omega)]; exact hD29, ?_, ?_⟩
      · rw [CV.agreeL (g7.mono (by decide)) _ (ckCVs_upto hdk 29)]; exact hh6
      · rw [CV.agreeL ((g6.trans (g7.mono (by omega))).mono (by decide)) _ (ckCVs_upto hdk 9)]; exact hh5
    have both : ∀ (q7 : Env), Agree 4 ρ q7 → 0 ≤ q7.i 8 → DiskAt (q7.h 29) dp D1 → List.map (CV.ev q7) (ckCVs 29 hdk) = hdV (lreadR D1 frm (64 * (n - 2)) 1).1 → List.map (CV.ev q7) (ckCVs 9 hdk) = hdV (lreadR D1 frm (64 * (n - 2)) 0).1 →
        (q7.i 9 < q7.i 29 → openH D1 frm n = (lreadR D1 frm (64 * (n - 2)) 1).1) ∧ (¬ q7.i 9 < q7.i 29 → openH D1 frm n = (lreadR D1 frm (64 * (n - 2)) 0).1) := by
      intro q7 _ _ _ h1 h2
      rw [hd_first h1, hd_first h2]
      exact ⟨fun h => by unfold openH; rw [if_pos h], fun h => by unfold openH; rw [if_neg h]⟩
    constructor
    · intro _
      refine ⟨call q5 _ _ 9 1 G5 ok0.1 hh5 p85 hD95 (Or.inr rfl), fun q6 g6 ⟨F, hp6, _, _⟩ q7 g7 _ => ?_⟩
      obtain ⟨z1, z2, z3, z4, z5, z6⟩ := mid q6 g6 F hp6 q7 g7
      obtain ⟨b1, b2⟩ := both q7 z2 z3 z4 z5 z6
      exact ⟨fun h => absurd z1 h, fun _ => ⟨fun hlt => leaf q7 (ckCVs 29 hdk) _ z2 ok1 le1 z5 z3 z4 hgone (b1 hlt), fun hge => leaf q7 (ckCVs 9 hdk) _ z2 ok0 le0 z6 z3 z4 hgone (b2 hge)⟩⟩
    · intro _
      refine ⟨call q5 _ _ 9 1 G5 ok0.1 hh5 p85 hD95 (Or.inr rfl), fun q6 g6 ⟨F, hp6, _, _⟩ q7 g7 _ => ?_⟩
      obtain ⟨z1, z2, z3, z4, z5, z6⟩ := mid q6 g6 F hp6 q7 g7
      obtain ⟨b1, b2⟩ := both q7 z2 z3 z4 z5 z6
      exact ⟨fun h => absurd z1 h, fun _ => ⟨fun hlt => leaf q7 (ckCVs 29 hdk) _ z2 ok1 le1 z5 z3 z4 hgone (b1 hlt), fun hge => leaf q7 (ckCVs 9 hdk) _ z2 ok0 le0 z6 z3 z4 hgone (b2 hge)⟩⟩
end Go.Proofs.YtomdimlnggpgbaaGreatDoor.D
namespace Go.Proofs.YtomdimlnggpgbaaGreatDoor.D
open Go Go.Sx
def slOf (sl : Value) (n : Nat) : Prop := ∃ (x y : Int) (c : Nat), sl = .slice (slP x y) n c ∧ -1 ≤ x ∧ 0 ≤ y
theorem OwB.slOf {F : Hl} {e : TypeId} {v : Value} {bs : List Int} (h : OwB F e v bs) : slOf v bs.length := by
  obtain ⟨x, c, hx, hv, _⟩ := OwB.rep h
  exact ⟨x, 0, c, hv, hx, Int.le_refl _⟩
theorem RdB.slOf {F : Hl} {v : Value} {bs : List Int} (h : RdB F v bs) : slOf v bs.length := by
  obtain ⟨x, y, c, hv, hy, h⟩ := h
  exact ⟨x, y, c, hv, by rcases h with ⟨h, _⟩ | ⟨h, _⟩ <;> omega, hy⟩
theorem slOf.uniq {sl : Value} {n m : Nat} (h : slOf sl n) (h' : slOf sl m) : n = m := by
  obtain ⟨x, y, c, rfl, _⟩ := h
  obtain ⟨x', y', c', he, _⟩ := h'
  simp only [Value.slice.injEq] at he
  exact he.2.1
theorem valP_sl0 {x y : Int} (hx : -1 ≤ x) (n c : Nat) : valP (some (.slice (slP x y) n c)) 0 = x := by
  rcases Int.lt_or_le x 0 with h | h
  · obtain rfl : x = -1 := by omega
    rfl
  · rw [slP_pos h]; show ((x.toNat : Nat) : Int) = x; omega
theorem valP_sl1 {x y : Int} (hx : 0 ≤ x) (hy : 0 ≤ y) (n c : Nat) : valP (some (.slice (slP x y) n c)) 1 = y := by
  rw [slP_pos hx]; show ((y.toNat : Nat) : Int) = y; omega
theorem valP_sl2 {x y : Int} (hx : -1 ≤ x) (n c : Nat) : valP (some (.slice (slP x y) n c)) 2 = n := by
  rcases Int.lt_or_le x 0 with h | h
  · obtain rfl : x = -1 := by omega
    rfl
  · rw [slP_pos h]; rfl
def rdLog (a : Nat) (R1 R2 : Hl) : Env := envI [(a : Int)] false [Hl.none, R2, R1]
def rdMem : Mem := [.ro 1 [.hP 2 (.var 0) (.lit 21) 0 0] false, .ro 2 [.var 0] false]
theorem rdEntry (a : Nat) (R1 R2 : Hl) (Rs : List Hl) (h1 : R1 ∈ Rs) (h2 : R2 ∈ Rs) : Entry (rdLog a R1 R2) rdMem [] Rs := by
  refine ⟨fun r hr ho => ?_, fun r hr ho => ?_, ?_, fun r hr => ?_⟩
  · simp [rdMem] at hr
    rcases hr with rfl | rfl <;> cases ho
  · simp [rdMem] at hr
    rcases hr with rfl | rfl
    · exact ⟨R2, h2, Hl.le_refl _⟩
    · exact ⟨R1, h1, Hl.le_refl _⟩
  · simp [rdMem, Res.own]
  · simp [rdMem] at hr
    rcases hr with rfl | rfl <;> trivial
def roomS : Sx.Spec where
  fn := 50
  own := []
  rd := [0]
  res := [.one (.int .i64)]
  pre := fun xs Hs Rs => ∃ p R dp sl L n, xs = [p] ∧ Rs = [R] ∧ LogRd R p dp sl L ∧ slOf sl n ∧ n ≤ 1048576
  post := fun xs Hs Rs v Hs' F => ∃ p R dp sl L n, xs = [p] ∧ Rs = [R] ∧ LogRd R p dp sl L ∧ slOf sl n ∧ v = .int .i64 (L.most - n)
def roomNd : Nd := .and (.e (.le (.lit 0) (.var 0))) (.and (.e (.his 2 (.var 0) (.lit 2) 0 (.int .i64))) (.and (.e (.his 2 (.var 0) (.lit 21) 0 .slice)) (.and (.e (.le (.lit 0) (.hP 2 (.var 0) (.lit 21) 0 2))) (.post [.ro 1 [.hP 2 (.var 0) (.lit 21) 0 0] false, .ro 2 [.var 0] false] (.sv (.one (.int .i64 (.wrap .i64 (.sub (.hI 2 (.var 0) (.lit 2) 0) (.hP 2 (.var 0) (.lit 21) 0 2))))))))))
def roomW : Walk Tryz.prog [] roomS.fn where
  Λ := noLoops
  args := [TP (.var 0) (.lit 0)]
  mem := rdMem
  nv := 3
  nd := roomNd
  ok := by kernel_rfl
def lnoteS : Sx.Spec where
  fn := 54
  own := []
  rd := [0]
  res := [.agg (u8s 16)]
  pre := fun xs Hs Rs => ∃ p R dp sl L, xs = [p] ∧ Rs = [R] ∧ LogRd R p dp sl L
  post := fun xs Hs Rs v Hs' F => ∃ p R dp sl L, xs = [p] ∧ Rs = [R] ∧ LogRd R p dp sl L ∧ v = .agg (bys L.note).toArray
def lnoteNd : Nd := .ext (.alloc 3) (.and (.e (.le (.lit 0) (.var 0))) (.and (.e (.hby 2 (.var 0) (.lit 5) (.lit 16))) (.post [.ro 1 [.hP 2 (.var 0) (.lit 21) 0 0] false, .ro 2 [.var 0] false, .dead] (.sv (.agg (romCells 2 (.var 0) (.lit 5) 0 (List.replicate 16 (Kd.int .u8))))))))
def lnoteW : Walk Tryz.prog [] lnoteS.fn where
  Λ := noLoops
  args := [TP (.var 0) (.lit 0)]
  mem := rdMem
  nv := 3
  nd := lnoteNd
  ok := by kernel_rfl
theorem LogIn.at21 {R : Hl} {a : Nat} {dp sl : Value} {L : LM} (h : LogIn R a dp sl L) : R.cell a 21 = some sl := by
  rw [h.cell]
  unfold lCells
  rw [List.getElem?_append_right (by simp), List.getElem?_append_right (by rw [bys_length, h.1.note]; simp)]
  rw [bys_length, h.1.note]; rfl
theorem LogIn.note_at {R : Hl} {a : Nat} {dp sl : Value} {L : LM} (h : LogIn R a dp sl L) : ∀ j z, L.note[j]? = some z → R.cell a (5 + j) = some (.int .u8 z) := by
  intro j z hz
  rw [h.cell]
  unfold lCells
  have hj := (List.getElem?_eq_some_iff.1 hz).1
  rw [List.getElem?_append_right (by simp), List.getElem?_append_left (by rw [bys_length]; simp; omega), bys_get]
  rw [show 5 + j - _ = j from by simp, hz]; rfl
theorem roomS_ok : roomS.OK Tryz.prog := by
  refine Spec.of_fn (Γ := []) (fun _ h => by cases h) ?_
  rintro xs Hs Rs hl1 hl2 ⟨p, R, dp, sl, L, n, rfl, rfl, ⟨a, rfl, hL⟩, hs, hn⟩
  have e0 : Hs = [] := List.length_eq_zero_iff.1 hl1
  subst e0
  refine ⟨roomW, rdLog a R R, fun _ _ => True, fun _ _ => 0, ?_, rdEntry a R R _ (by simp) (by simp), (fun _ h => nomatch h), ?_⟩
  · show [Value.pointer (slP (a : Int) 0)] = _; rw [dArg]
  · show Nd.holds _ _ _ roomNd
    unfold roomNd
    simp only [Nd.holds, X.pre, X.rel, X.n, Src.ok, Src.len, Src.vals, true_and, and_true, if_true, Nat.mul_one, Nat.add_zero, Nat.reduceAdd, List.length_cons, List.length_nil, bT_tt, bT_ff, bT_bvar, bT_not, bT_and, bT_or, bT_ite, bT_lt, bT_le, bT_eq, bT_beq, bT_seq, bT_hB, bT_his, bT_hby, bT_hism, bT_hks, iev_lit, iev_var, iev_add, iev_sub, iev_mul, iev_wrap, iev_ite, iev_hI, iev_hP, iev_hmlen, sev_ite, sev_slit, sev_sof, sev_svar, TV.ev, SV.ev, CV.ev, List.map_cons, List.map_nil, Res.hl]
    have v0 : (rdLog a R R).i 0 = a := rfl
    have w2 : (rdLog a R R).h 2 = R := rfl
    have c2 : R.cell a 2 = some (.int .i64 L.most) := by rw [hL.cell]; rfl
    have c21 := hL.at21
    obtain ⟨x, y, c, hsl, hx, hy⟩ := id hs
    obtain ⟨m0, m1⟩ := hL.1.most
    rw [v0, w2, Int.toNat_natCast, show Int.toNat 2 = 2 from rfl, show Int.toNat 21 = 21 from rfl, c2, c21, hsl]
    refine ⟨by omega, rfl, rfl, by rw [valP_sl2 hx]; omega, fun _ => ⟨[], [], rfl, rfl, ⟨⟨fun _ => L.most - n, fun _ => false, fun _ => .empty, fun _ => .tuple #[], fun _ => Hl.none⟩, ?_, trivial, trivial⟩, _, R, dp, sl, L, n, rfl, rfl, ⟨a, rfl, hL⟩, hs, ?_⟩⟩
    all_goals
      show Value.int .i64 (IntKind.i64.wrap (valI (R.cell ((a : Int)).toNat 2) - valP (R.cell ((a : Int)).toNat 21) 2)) = Value.int .i64 (L.most - n)
      rw [Int.toNat_natCast, c2, c21, hsl]
      rw [valP_sl2 hx]
      show Value.int .i64 (IntKind.i64.wrap (L.most - (n : Int))) = _
      rw [wrap_i64 (by omega) (by omega)]
theorem lnoteS_ok : lnoteS.OK Tryz.prog := by
  refine Spec.of_fn (Γ := []) (fun _ h => by cases h) ?_
  rintro xs Hs Rs hl1 hl2 ⟨p, R, dp, sl, L, rfl, rfl, ⟨a, rfl, hL⟩⟩
  have e0 : Hs = [] := List.length_eq_zero_iff.1 hl1
  subst e0
  refine ⟨lnoteW, rdLog a R R, fun _ _ => True, fun _ _ => 0, ?_, rdEntry a R R _ (by simp) (by simp), (fun _ h => nomatch h), ?_⟩
  · show [Value.pointer (slP (a : Int) 0)] = _; rw [dArg]
  · show Nd.holds _ _ _ lnoteNd
    unfold lnoteNd
    simp only [Nd.holds, X.pre, X.rel, X.n, Src.ok, Src.len, Src.vals, true_and, and_true, if_true, Nat.mul_one, Nat.add_zero, Nat.reduceAdd, List.length_cons, List.length_nil, bT_tt, bT_ff, bT_bvar, bT_not, bT_and, bT_or, bT_ite, bT_lt, bT_le, bT_eq, bT_beq, bT_seq, bT_hB, bT_his, bT_hby, bT_hism, bT_hks, iev_lit, iev_var, iev_add, iev_sub, iev_mul, iev_wrap, iev_ite, iev_hI, iev_hP, iev_hmlen, sev_ite, sev_slit, sev_sof, sev_svar, TV.ev, SV.ev, CV.ev, List.map_cons, List.map_nil, Res.hl]
    intro q g _
    have v0 : q.i 0 = a := g.i 0 (by omega)
    have w2 : q.h 2 = R := g.h 2 (by omega)
    have hc := hL.note_at
    rw [v0, w2, Int.toNat_natCast, show Int.toNat 5 = 5 from rfl, show Int.toNat 16 = 16 from rfl]
    have er : (romCells 2 (E.var 0) (E.lit 5) 0 (List.replicate 16 (Kd.int IntKind.u8))).map (CV.ev q) = bys L.note := by
      refine romCells_ev 16 0 _ hL.1.note fun i z hz => ?_
      rw [iev_var, iev_lit, v0, w2, Int.toNat_natCast, Nat.zero_add]
      exact hc _ _ hz
    refine ⟨by omega, cells_bytes hc (by rw [hL.1.note]; omega), fun _ => ⟨[], [], rfl, rfl, ?_, _, R, dp, sl, L, rfl, rfl, ⟨a, rfl, hL⟩, ?_⟩⟩
    · obtain ⟨c, _, _, ec⟩ := row_rep (u8s 16) 0 (bys L.note) ⟨fun _ => 0, fun _ => false, fun _ => .empty, fun _ => .tuple #[], fun _ => Hl.none⟩ (rowOK_bys 16 _ hL.1.note)
      refine ⟨c, ?_, ckNorms_pure _ _ _ (by decide), trivial⟩
      show Value.agg (List.map (CV.ev q) _).toArray = Value.agg ((ckCVs 0 (u8s 16)).map (CV.ev c)).toArray
      rw [er, ec]
    · show Value.agg (List.map (CV.ev q) _).toArray = _
      rw [er]
def bytesS : Sx.Spec where
  fn := 47
  own := []
  rd := [0, 1021]
  res := [.one .sl]
  pre := fun xs Hs Rs => ∃ p R1 R2 dp sl L bs, xs = [p] ∧ Rs = [R1, R2] ∧ LogRd R1 p dp sl L ∧ RdB R2 sl bs ∧ bs.length ≤ 1048576
  post := fun xs Hs Rs v Hs' F => ∃ p R1 R2 dp sl L bs, xs = [p] ∧ Rs = [R1, R2] ∧ LogRd R1 p dp sl L ∧ RdB R2 sl bs ∧ OwB F 5 v bs
def bytesNd : Nd := .and (.e (.le (.lit 0) (.var 0))) (.and (.e (.his 2 (.var 0) (.lit 21) 0 .slice)) (.and (.imp (.eq (.hP 2 (.var 0) (.lit 21) 0 0) (.lit (-1))) (.post [.ro 1 [.hP 2 (.var 0) (.lit 21) 0 0] false, .ro 2 [.var 0] false] (.sv (.one (.sl (.lit (-1)) (.lit 0) (.lit 0) (.lit 0)))))) (.imp (.not (.eq (.hP 2 (.var 0) (.lit 21) 0 0) (.lit (-1)))) (.ext (.alloc 3) (.and (.pre (.app 4 5 1 1 (.sl (.var 3) (.lit 0) (.lit 0) (.lit 0)) (.lit 0) (.blk 3 [] 5) (.seg 1 (.hP 2 (.var 0) (.lit 21) 0 0) (.hP 2 (.var 0) (.lit 21) 0 1) (.hP 2 (.var 0) (.lit 21) 0 2)))) (.ext (.app 4 5 1 1 (.sl (.var 3) (.lit 0) (.lit 0) (.lit 0)) (.lit 0) (.blk 3 [] 5) (.seg 1 (.hP 2 (.var 0) (.lit 21) 0 0) (.hP 2 (.var 0) (.lit 21) 0 1) (.hP 2 (.var 0) (.lit 21) 0 2))) (.post [.ro 1 [.hP 2 (.var 0) (.lit 21) 0 0] false, .ro 2 [.var 0] false, .hp 4 [] [.var 4, .var 3] []] (.sv (.one (.sl (.var 4) (.lit 0) (.hP 2 (.var 0) (.lit 21) 0 2) (.var 5)))))))))))
def bytesW : Walk Tryz.prog [] bytesS.fn where
  Λ := noLoops
  args := [TP (.var 0) (.lit 0)]
  mem := rdMem
  nv := 3
  nd := bytesNd
  ok := by kernel_rfl
theorem bytesS_ok : bytesS.OK Tryz.prog := by
  refine Spec.of_fn (Γ := []) (fun _ h => by cases h) ?_
  rintro xs Hs Rs hl1 hl2 ⟨p, R1, R2, dp, sl, L, bs, rfl, rfl, ⟨a, rfl, hL⟩, hB, hn⟩
  have e0 : Hs = [] := List.length_eq_zero_iff.1 hl1
  subst e0
  refine ⟨bytesW, rdLog a R1 R2, fun _ _ => True, fun _ _ => 0, ?_, rdEntry a R1 R2 _ (by simp) (by simp), (fun _ h => nomatch h), ?_⟩
  · show [Value.pointer (slP (a : Int) 0)] = _; rw [dArg]
  · show Nd.holds _ _ _ bytesNd
    unfold bytesNd
    simp only [Nd.holds, X.pre, X.rel, X.n, Src.ok, Src.len, Src.vals, true_and, and_true, if_true, Nat.mul_one, Nat.add_zero, Nat.reduceAdd, List.length_cons, List.length_nil, bT_tt, bT_ff, bT_bvar, bT_not, bT_and, bT_or, bT_ite, bT_lt, bT_le, bT_eq, bT_beq, bT_seq, bT_hB, bT_his, bT_hby, bT_hism, bT_hks, iev_lit, iev_var, iev_add, iev_sub, iev_mul, iev_wrap, iev_ite, iev_hI, iev_hP, iev_hmlen, sev_ite, sev_slit, sev_sof, sev_svar, TV.ev, SV.ev, CV.ev, List.map_cons, List.map_nil, Res.hl]
    have c21 := hL.at21
    obtain ⟨x, y, c, hsl, hy, hc⟩ := id hB
    have hx : -1 ≤ x := by rcases hc with ⟨h, _⟩ | ⟨h, _⟩ <;> omega
    have w2 : (rdLog a R1 R2).h 2 = R1 := rfl
    have v0 : (rdLog a R1 R2).i 0 = a := rfl
    have t0 : Int.toNat 0 = 0 := rfl
    rw [v0, w2, Int.toNat_natCast, show Int.toNat 21 = 21 from rfl, c21, hsl, valP_sl0 hx]
    refine ⟨by omega, rfl, fun h => fun _ => ?_, fun h q g p3 => ?_⟩
    · have hbs : bs = [] := by
        rcases hc with ⟨_, h'⟩ | ⟨h', _⟩
        · exact h'
        · omega
      subst hbs
      exact ⟨[], [], rfl, rfl, ⟨⟨fun k => [-1, 0, 0, 0].getD k 0, fun _ => false, fun _ => .empty, fun _ => .tuple #[], fun _ => Hl.none⟩, rfl, ⟨by show (-1 : Int) ≤ -1; omega, Int.le_refl _, Int.le_refl _, Int.le_refl _⟩, trivial⟩, _, R1, R2, dp, sl, L, [], rfl, rfl, ⟨a, rfl, hL⟩, hB, ⟨rfl, Or.inl ⟨rfl, rfl⟩⟩⟩
    · have hx0 : 0 ≤ x := by omega
      have hcell : ∀ (j : Nat) (z : Int), bs[j]? = some z → R2.cell x.toNat (y.toNat + j) = some (.int .u8 z) := by
        rcases hc with ⟨h', _⟩ | ⟨_, h'⟩
        · omega
        · exact h'
      have hsl' := hsl
      rw [g.i 0 (by omega), v0, g.h 2 (by omega), w2, g.h 1 (by omega), show (rdLog a R1 R2).h 1 = R2 from rfl, Int.toNat_natCast, c21, hsl, valP_sl0 hx, valP_sl1 hx0 hy, valP_sl2 hx, t0, Int.toNat_natCast]
      have hnil : OwnsH (Hl.one (q.i 3).toNat (.cells #[] 5 (0, 0))) 5 1 (.slice (slP (q.i 3) 0) 0 0) 0 [] := ⟨rfl, Or.inr ⟨(q.i 3).toNat, 0, #[], by rw [slP_pos p3]; rfl, Hl.one_self _ _, by omega, by decide, rfl, rfl⟩⟩
      refine ⟨⟨⟨[], hnil⟩, by omega, Or.inl ⟨hx0, hy, by omega, fun j hj => ?_⟩, by unfold maxLen; omega, by omega⟩, fun q2 g2 ⟨a1, a2, a3, _⟩ => ?_⟩
      · exact ⟨_, hcell j _ (List.getElem?_eq_getElem hj), rfl⟩
      · have hseg : segVals R2 x.toNat y.toNat bs.length = bys bs := by
          unfold segVals
          apply List.ext_getElem?
          intro j
          rw [List.getElem?_map, bys_get]
          rcases Nat.lt_or_ge j bs.length with hj | hj
          · rw [List.getElem?_range hj, Option.map_some, hcell j _ (List.getElem?_eq_getElem hj), List.getElem?_eq_getElem hj]
            rfl
          · rw [List.getElem?_eq_none (by simpa using hj), List.getElem?_eq_none (by omega)]; rfl
        have hx' := a3 _ hnil
        rw [hseg, List.nil_append, Nat.zero_add] at hx'
        have G2 : Agree 3 (rdLog a R1 R2) q2 := g.trans (g2.mono (by omega))
        have ev : (TV.sv (SV.one (CV.sl (.var 4) (.lit 0) (.hP 2 (.var 0) (.lit 21) 0 2) (.var 5)))).ev q2 = .slice (slP (q2.i 4) 0) bs.length (q2.i 5).toNat := by
          show Value.slice (slP (q2.i 4) 0) (iev q2 (.hP 2 (.var 0) (.lit 21) 0 2)).toNat (q2.i 5).toNat = _
          rw [iev_hP, iev_var, iev_lit, G2.i 0 (by omega), v0, G2.h 2 (by omega), w2, Int.toNat_natCast, show Int.toNat 21 + 0 = 21 from rfl, c21, hsl, valP_sl2 hx, Int.toNat_natCast]
        refine fun _ => ⟨[], [2], rfl, rfl, ⟨⟨fun k => [q2.i 4, 0, bs.length, q2.i 5].getD k 0, fun _ => false, fun _ => .empty, fun _ => .tuple #[], fun _ => Hl.none⟩, ?_, ⟨a1, Int.le_refl _, by show (0 : Int) ≤ (bs.length : Int); omega, a2⟩, trivial⟩, _, R1, R2, dp, sl, L, bs, rfl, rfl, ⟨a, rfl, hL⟩, hB, ?_⟩
        · rw [ev]; show _ = Value.slice (slP (q2.i 4) 0) ((bs.length : Int)).toNat (q2.i 5).toNat
          rw [Int.toNat_natCast]
        · rw [ev]
          show OwB (hls [q2.h 4]) _ _ _
          rw [hls_one]
          exact hx'
end Go.Proofs.YtomdimlnggpgbaaGreatDoor.D
namespace Go.Proofs.YtomdimlnggpgbaaGreatDoor.D
open Go Go.Sx
theorem u8_ev {q : Env} : ∀ (m n : Nat) (l : List Int), l.length = m → (∀ k, k < m → q.i (n + k) = l.getD k 0) → (ckCVs n (List.replicate m (Ck.int .u8))).map (CV.ev q) = bys l
  | 0, n, [], _, _ => rfl
  | m + 1, n, z :: l, hl, h => by
    rw [List.replicate_succ]
    show CV.ev q (.int .u8 (.var n)) :: (ckCVs (n + 1) (List.replicate m (Ck.int .u8))).map (CV.ev q) = Value.int .u8 z :: bys l
    rw [u8_ev m (n + 1) l (by simpa using hl) fun k hk => by rw [show n + 1 + k = n + (k + 1) by omega, h (k + 1) (by omega)]; rfl]
    congr 1
    show Value.int .u8 (q.i n) = _
    have := h 0 (by omega)
    rw [Nat.add_zero] at this
    rw [this]; rfl
  | 0, _, _ :: _, h, _ => by simp at h
  | _ + 1, _, [], h, _ => by simp at h
def newH (L : LM) (all nt : List Int) : List Int := (L.serial + 1) :: (all.length : Int) :: nt
def becomeR (D : DM) (L : LM) (all nt : List Int) (n : Nat) : Int × DM :=
  if (fillR D L.frm all n).1 ≠ 0 then (5, (fillR D L.frm all n).2)
  else if (turnR (fillR D L.frm all n).2 L.frm (newH L all nt)).1 ≠ 0 then (5, (turnR (fillR D L.frm all n).2 L.frm (newH L all nt)).2)
  else (0, (turnR (fillR D L.frm all n).2 L.frm (newH L all nt)).2)
def grownL (L : LM) (all nt : List Int) : LM := ⟨L.frm, L.most, L.serial + 1, all.length, nt, L.over⟩
def overL (L : LM) : LM := { L with over := true }
def becomeS : Sx.Spec where
  fn := 89
  own := [.arg 0, .arg 1, .link 0 0]
  rd := []
  res := [.one (.int .i64)]
  pre := fun xs Hs Rs => ∃ p a u all nt H HA HD dp sl L n D, xs = [p, u, .agg (bys nt).toArray, .bool true] ∧ Hs = [H, HA, HD] ∧ p = .pointer (some ⟨a, 0, none⟩) ∧ LogIn H a dp sl L ∧ slOf sl n ∧ n ≤ 1048576 ∧ OwB HA 5 u all ∧ all.length ≤ 1048576 ∧ nt.length = 16 ∧ DiskAt HD dp D ∧ 0 ≤ L.serial ∧ L.serial < 4611686018427387904
  post := fun xs Hs Rs v Hs' F => ∃ p a u all nt H HA HD dp sl L n D H' HA' HD', xs = [p, u, .agg (bys nt).toArray, .bool true] ∧ Hs = [H, HA, HD] ∧ p = .pointer (some ⟨a, 0, none⟩) ∧ LogIn H a dp sl L ∧ slOf sl n ∧ OwB HA 5 u all ∧ DiskAt HD dp D ∧ Hs' = [H', HA', HD'] ∧ DiskAt HD' dp (becomeR D L all nt n).2 ∧ v = .int .i64 (becomeR D L all nt n).1 ∧
    ((becomeR D L all nt n).1 = 0 → LogAt H' p dp (grownL L all nt) all) ∧ ((becomeR D L all nt n).1 ≠ 0 → H' = Hl.one a (lObj dp sl (overL L)))
def becomeNd : Nd := .ext (.alloc 61) (.and (.e (.le (.lit 0) (.var 3))) (.ext (.alloc 62) (.and (.imp (.bvar 60) (.and (.e (.le (.lit 0) (.var 45))) (.and (.pre (.call 0 63 [.sv (.one (.hptr (.var 0) (.lit 0))), .sv (.one (.sl (.var 1) (.var 2) (.var 3) (.var 4))), .sv (.one (.int .i64 (.var 45)))] [.hp 49 [] [.var 21] []] [.blk 0 (ckCVs 21 ([Ck.ptr, Ck.int .i64, Ck.int .i64, Ck.int .u64, Ck.int .u64] ++ List.replicate 16 (Ck.int .u8) ++ [Ck.sl, Ck.bool])) 145, .hp 48 [] [.var 1] []])) (.ext (.call 0 63 [.sv (.one (.hptr (.var 0) (.lit 0))), .sv (.one (.sl (.var 1) (.var 2) (.var 3) (.var 4))), .sv (.one (.int .i64 (.var 45)))] [.hp 49 [] [.var 21] []] [.blk 0 (ckCVs 21 ([Ck.ptr, Ck.int .i64, Ck.int .i64, Ck.int .u64, Ck.int .u64] ++ List.replicate 16 (Ck.int .u8) ++ [Ck.sl, Ck.bool])) 145, .hp 48 [] [.var 1] []]) (.and (.imp (.eq (.var 63) (.lit 0)) (.and (.pre (.call 1 65 [.sv (.one (.hptr (.var 0) (.lit 0))), .sv (.agg ([.int .u64 (.wrap .u64 (.add (.var 25) (.lit 1))), .int .u64 (.wrap .u64 (.var 3))] ++ ckCVs 5 (List.replicate 16 (Ck.int .u8))))] [.hp 63 [49] [.var 21] []] [.blk 0 (ckCVs 21 ([Ck.ptr, Ck.int .i64, Ck.int .i64, Ck.int .u64, Ck.int .u64] ++ List.replicate 16 (Ck.int .u8) ++ [Ck.sl, Ck.bool])) 145])) (.ext (.call 1 65 [.sv (.one (.hptr (.var 0) (.lit 0))), .sv (.agg ([.int .u64 (.wrap .u64 (.add (.var 25) (.lit 1))), .int .u64 (.wrap .u64 (.var 3))] ++ ckCVs 5 (List.replicate 16 (Ck.int .u8))))] [.hp 63 [49] [.var 21] []] [.blk 0 (ckCVs 21 ([Ck.ptr, Ck.int .i64, Ck.int .i64, Ck.int .u64, Ck.int .u64] ++ List.replicate 16 (Ck.int .u8) ++ [Ck.sl, Ck.bool])) 145]) (.and (.imp (.not (.eq (.var 65) (.lit 0))) (.post [.blk 0 (ckCVs 21 ([Ck.ptr, Ck.int .i64, Ck.int .i64, Ck.int .u64, Ck.int .u64] ++ List.replicate 16 (Ck.int .u8) ++ [Ck.sl]) ++ [.bool .tt]) 145, .hp 48 [] [.var 1] [], .hp 65 [63, 49] [.var 21] [], .dead, .dead] (.sv (.one (.int .i64 (.lit 5)))))) (.imp (.eq (.var 65) (.lit 0)) (.post [.blk 0 ([.hptr (.var 21) (.var 22), .int .i64 (.var 23), .int .i64 (.var 24), .int .u64 (.wrap .u64 (.add (.var 25) (.lit 1))), .int .u64 (.wrap .u64 (.var 3))] ++ ckCVs 5 (List.replicate 16 (Ck.int .u8)) ++ [.sl (.var 1) (.var 2) (.var 3) (.var 4), .bool (.bvar 47)]) 145, .hp 48 [] [.var 1] [], .hp 65 [63, 49] [.var 21] [], .dead, .dead] (.sv (.one (.int .i64 (.lit 0)))))))))) (.imp (.not (.eq (.var 63) (.lit 0))) (.post [.blk 0 (ckCVs 21 ([Ck.ptr, Ck.int .i64, Ck.int .i64, Ck.int .u64, Ck.int .u64] ++ List.replicate 16 (Ck.int .u8) ++ [Ck.sl]) ++ [.bool .tt]) 145, .hp 48 [] [.var 1] [], .hp 63 [49] [.var 21] [], .dead, .dead] (.sv (.one (.int .i64 (.lit 5))))))))))) (.imp (.not (.bvar 60)) (.and (.pre (.call 1 63 [.sv (.one (.hptr (.var 0) (.lit 0))), .sv (.agg ([.int .u64 (.wrap .u64 (.add (.var 25) (.lit 1))), .int .u64 (.wrap .u64 (.var 3))] ++ ckCVs 5 (List.replicate 16 (Ck.int .u8))))] [.hp 49 [] [.var 21] []] [.blk 0 (ckCVs 21 ([Ck.ptr, Ck.int .i64, Ck.int .i64, Ck.int .u64, Ck.int .u64] ++ List.replicate 16 (Ck.int .u8) ++ [Ck.sl, Ck.bool])) 145])) (.ext (.call 1 63 [.sv (.one (.hptr (.var 0) (.lit 0))), .sv (.agg ([.int .u64 (.wrap .u64 (.add (.var 25) (.lit 1))), .int .u64 (.wrap .u64 (.var 3))] ++ ckCVs 5 (List.replicate 16 (Ck.int .u8))))] [.hp 49 [] [.var 21] []] [.blk 0 (ckCVs 21 ([Ck.ptr, Ck.int .i64, Ck.int .i64, Ck.int .u64, Ck.int .u64] ++ List.replicate 16 (Ck.int .u8) ++ [Ck.sl, Ck.bool])) 145]) (.and (.imp (.not (.eq (.var 63) (.lit 0))) (.post [.blk 0 (ckCVs 21 ([Ck.ptr, Ck.int .i64, Ck.int .i64, Ck.int .u64, Ck.int .u64] ++ List.replicate 16 (Ck.int .u8) ++ [Ck.sl]) ++ [.bool .tt]) 145, .hp 48 [] [.var 1] [], .hp 63 [49] [.var 21] [], .dead, .dead] (.sv (.one (.int .i64 (.lit 5)))))) (.imp (.eq (.var 63) (.lit 0)) (.post [.blk 0 ([.hptr (.var 21) (.var 22), .int .i64 (.var 23), .int .i64 (.var 24), .int .u64 (.wrap .u64 (.add (.var 25) (.lit 1))), .int .u64 (.wrap .u64 (.var 3))] ++ ckCVs 5 (List.replicate 16 (Ck.int .u8)) ++ [.sl (.var 1) (.var 2) (.var 3) (.var 4), .bool (.bvar 47)]) 145, .hp 48 [] [.var 1] [], .hp 63 [49] [.var 21] [], .dead, .dead] (.sv (.one (.int .i64 (.lit 0)))))))))))))
def becomeΓ : List Sx.Spec := [fillS, turnS]
theorem becomeΓ_ok : ∀ t ∈ becomeΓ, t.OK Tryz.prog := fun t ht => by
  simp only [becomeΓ, List.mem_cons, List.mem_nil_iff, or_false] at ht
  rcases ht with rfl | rfl
  · exact fillS_ok
  · exact turnS_ok
def becomeW : Walk Tryz.prog becomeΓ becomeS.fn where
  Λ := noLoops
  args := [TP (.var 0) (.lit 0), .sv (.one (.sl (.var 1) (.var 2) (.var 3) (.var 4))), .sv (.agg (ckCVs 5 (u8s 16))), .sv (.one (.bool (.bvar 60)))]
  mem := [.blk 0 (ckCVs 21 logK ++ [.sl (.var 43) (.var 44) (.var 45) (.var 46), .bool (.bvar 47)]) 145, .hp 48 [] [.var 1] [], .hp 49 [] [.var 21] []]
  nv := 61
  nd := becomeNd
  ok := by kernel_rfl
theorem bg0 : becomeΓ[0]? = some fillS := rfl
theorem bg1 : becomeΓ[1]? = some turnS := rfl
theorem br0 : fillS.res = [.one (.int .i64)] := rfl
theorem br1 : turnS.res = [.one (.int .i64)] := rfl
def becEnv (a : Nat) (x : Int) (n c : Nat) (nt : List Int) (da : Nat) (L : LM) (sx sy : Int) (sn sc : Nat) (HA HD : Hl) : Env :=
  ⟨fun k => if k < 5 then [(a : Int), x, 0, n, c].getD k 0 else if k < 21 then nt.getD (k - 5) 0 else if k < 43 then (lInts da L).getD (k - 21) 0 else [sx, sy, (sn : Int), (sc : Int)].getD (k - 43) 0, fun k => if k = 60 then true else L.over, fun _ => .empty, fun _ => .tuple #[], fun k => if k = 48 then HA else HD⟩
theorem becomeS_ok : becomeS.OK Tryz.prog := by
  refine spec_of_fn2 (Γ := becomeΓ) becomeΓ_ok ?_
  rintro xs Hs Rs hl1 hl2 hdis ⟨p, a, u, all, nt, H, HA, HD, dp, sl, L, n, D, rfl, rfl, rfl, hL, hsl, hn, hO, hall, hnt, hD, hs0, hs1⟩
  have e1 : Rs = [] := List.length_eq_zero_iff.1 hl2
  subst e1
  obtain ⟨da, s, m, es, clock, hdp, hDi⟩ := id hD
  obtain ⟨x, c, hx, hu, hc, hcell⟩ := OwB.rep hO
  obtain ⟨sx, sy, sc, hsl', hsx, hsy⟩ := id hsl
  have eB : ∀ (q : Env), Agree 61 (becEnv a x all.length c nt da L sx sy n sc HA HD) q → (Res.blk 0 (ckCVs 21 logK ++ [.sl (.var 43) (.var 44) (.var 45) (.var 46), .bool (.bvar 47)]) 145).hl q = Hl.one a (lObj dp sl L) := by
    intro q g
    have h1 : ∀ k, k < 22 → q.i (21 + k) = (lInts da L).getD k 0 := fun k hk => by
      rw [g.i _ (by omega)]
      show (if 21 + k < 5 then _ else if 21 + k < 21 then _ else if 21 + k < 43 then (lInts da L).getD (21 + k - 21) 0 else _) = _
      rw [if_neg (by omega), if_neg (by omega), if_pos (by omega), show 21 + k - 21 = k by omega]
    show Hl.one (q.i 0).toNat (.cells ((ckCVs 21 logK ++ [CV.sl (.var 43) (.var 44) (.var 45) (.var 46), .bool (.bvar 47)]).map (CV.ev q)).toArray _ (0, 0)) = _
    rw [List.map_append, logK_ev hL.1 h1, g.i 0 (by omega)]
    have e1 : CV.ev q (.sl (.var 43) (.var 44) (.var 45) (.var 46)) = sl := by
      simp only [CV.ev, iev_var, g.i 43 (by omega), g.i 44 (by omega), g.i 45 (by omega), g.i 46 (by omega)]
      rw [hsl']
      show Value.slice (slP sx sy) ((n : Int)).toNat ((sc : Int)).toNat = _
      rw [Int.toNat_natCast, Int.toNat_natCast]
    have e2 : CV.ev q (.bool (.bvar 47)) = .bool L.over := by
      show Value.bool (q.b 47) = _
      rw [g.b 47 (by omega)]; rfl
    rw [List.map_cons, List.map_cons, List.map_nil, e1, e2, List.append_assoc, ← hdp]
    rfl
  refine ⟨becomeW, becEnv a x all.length c nt da L sx sy n sc HA HD, fun _ _ => True, fun _ _ => 0, ?_, ⟨?_, ?_, ?_, ?_⟩, (fun _ h => nomatch h), ?_⟩
  · show [Value.pointer (slP (a : Int) 0), Value.slice (slP x 0) ((all.length : Int)).toNat ((c : Int)).toNat, Value.agg ((ckCVs 5 (u8s 16)).map (CV.ev _)).toArray, Value.bool true] = _
    unfold u8s
    rw [dArg, Int.toNat_natCast, Int.toNat_natCast, ← hu, u8_ev 16 5 nt hnt fun k hk => ?_]
    show (if 5 + k < 5 then _ else if 5 + k < 21 then nt.getD (5 + k - 5) 0 else _) = _
    rw [if_neg (by omega), if_pos (by omega), show 5 + k - 5 = k by omega]
  · intro r hr ho
    simp only [becomeW, List.mem_cons, List.mem_nil_iff, or_false] at hr
    rcases hr with rfl | rfl | rfl
    · refine ⟨H, by simp, ?_⟩
      rw [eB _ (Agree.refl _ _)]
      intro b o hb
      obtain ⟨rfl, rfl⟩ := Hl.one_eq hb
      exact hL.2
    · exact ⟨HA, by simp, Hl.le_refl _⟩
    · exact ⟨HD, by simp, Hl.le_refl _⟩
  · intro r hr ho
    simp only [becomeW, List.mem_cons, List.mem_nil_iff, or_false] at hr
    rcases hr with rfl | rfl | rfl <;> cases ho
  · have d1 : H.dis HA := hdis 0 1 _ _ (by decide) rfl rfl
    have d2 : H.dis HD := hdis 0 2 _ _ (by decide) rfl rfl
    have d3 : HA.dis HD := hdis 1 2 _ _ (by decide) rfl rfl
    have hm : H.mem a := by unfold Hl.mem; rw [hL.2]; rfl
    refine List.Pairwise.cons (fun r hr _ _ => ?_) (List.Pairwise.cons (fun r hr _ _ => ?_) (List.Pairwise.cons (fun r hr => by cases hr) List.Pairwise.nil))
    · simp only [List.mem_cons, List.mem_nil_iff, or_false] at hr
      rw [eB _ (Agree.refl _ _)]
      rcases hr with rfl | rfl
      · exact Hl.one_dis.2 fun h => d1 a ⟨hm, h⟩
      · exact Hl.one_dis.2 fun h => d2 a ⟨hm, h⟩
    · rw [List.mem_singleton] at hr
      subst hr
      exact d3
  · intro r hr
    simp only [becomeW, List.mem_cons, List.mem_nil_iff, or_false] at hr
    rcases hr with rfl | rfl | rfl
    · show (0 : Int) ≤ (a : Int); omega
    · trivial
    · trivial
  · show Nd.holds _ _ _ becomeNd
    generalize hρ : becEnv a x all.length c nt da L sx sy n sc HA HD = ρ at eB ⊢
    have v0 : ρ.i 0 = a := by rw [← hρ]; rfl
    have v1 : ρ.i 1 = x := by rw [← hρ]; rfl
    have v2 : ρ.i 2 = 0 := by rw [← hρ]; rfl
    have v3 : ρ.i 3 = all.length := by rw [← hρ]; rfl
    have v4 : ρ.i 4 = c := by rw [← hρ]; rfl
    have v45 : ρ.i 45 = n := by rw [← hρ]; rfl
    have b60 : ρ.b 60 = true := by rw [← hρ]; rfl
    have w48 : ρ.h 48 = HA := by rw [← hρ]; rfl
    have w49 : ρ.h 49 = HD := by rw [← hρ]; rfl
    have rk : ∀ k, k < 22 → ρ.i (21 + k) = (lInts da L).getD k 0 := fun k hk => by
      rw [← hρ]
      show (if 21 + k < 5 then _ else if 21 + k < 21 then _ else if 21 + k < 43 then (lInts da L).getD (21 + k - 21) 0 else _) = _
      rw [if_neg (by omega), if_neg (by omega), if_pos (by omega), show 21 + k - 21 = k by omega]
    have rn : ∀ k, k < 16 → ρ.i (5 + k) = nt.getD k 0 := fun k hk => by
      rw [← hρ]
      show (if 5 + k < 5 then _ else if 5 + k < 21 then nt.getD (5 + k - 5) 0 else _) = _
      rw [if_neg (by omega), if_pos (by omega), show 5 + k - 5 = k by omega]
    unfold becomeNd
    simp only [Nd.holds, X.pre, X.rel, X.n, Src.ok, Src.len, Src.vals, true_and, and_true, if_true, Nat.mul_one, Nat.add_zero, Nat.reduceAdd, List.length_cons, List.length_nil, bT_tt, bT_ff, bT_bvar, bT_not, bT_and, bT_or, bT_ite, bT_lt, bT_le, bT_eq, bT_beq, bT_seq, bT_hB, bT_his, bT_hby, bT_hism, bT_hks, iev_lit, iev_var, iev_add, iev_sub, iev_mul, iev_wrap, iev_ite, iev_hI, iev_hP, iev_hmlen, sev_ite, sev_slit, sev_sof, sev_svar, TV.ev, SV.ev, CV.ev, List.map_cons, List.map_nil, Res.hl, cpTV, Cp.sv, Ck.cv, cpSVs, Cp.len, Ck.len, newHs_zero, newHs_one, roots_ne, bg0, bg1, br0, br1]
    intro q1 g1 _
    rw [g1.i 3 (by omega), v3]
    refine ⟨by omega, fun q2 g2 _ => ?_⟩
    have G2 : Agree 61 ρ q2 := g1.trans (g2.mono (by omega))
    rw [G2.b 60 (by omega), b60]
    refine ⟨fun _ => ?_, fun h => absurd rfl h⟩
    rw [G2.i 0 (by omega), v0, G2.i 1 (by omega), v1, G2.i 2 (by omega), v2, G2.i 3 (by omega), v3, G2.i 4 (by omega), v4, G2.i 45 (by omega), v45, G2.h 48 (by omega), w48, G2.h 49 (by omega), w49, dArg, Int.toNat_natCast, Int.toNat_natCast, ← hu]
    have ls : ∀ q : Env, Agree 61 ρ q → CV.ev q (.sl (.var 43) (.var 44) (.var 45) (.var 46)) = sl := by
      intro q g
      simp only [CV.ev, iev_var, g.i 43 (by omega), g.i 44 (by omega), g.i 45 (by omega), g.i 46 (by omega)]
      rw [← hρ, hsl']
      show Value.slice (slP sx sy) ((n : Int)).toNat ((sc : Int)).toNat = _
      rw [Int.toNat_natCast, Int.toNat_natCast]
    have lk : ∀ q : Env, Agree 61 ρ q → ∀ k, k < 22 → q.i (21 + k) = (lInts da L).getD k 0 := fun q g k hk => by rw [g.i _ (by omega)]; exact rk k hk
    have eB2 : ∀ q : Env, Agree 61 ρ q → Hl.one a (Obj.cells (List.map (CV.ev q) (ckCVs 21 ([Ck.ptr, Ck.int IntKind.i64, Ck.int IntKind.i64, Ck.int IntKind.u64, Ck.int IntKind.u64] ++ List.replicate 16 (Ck.int IntKind.u8) ++ [Ck.sl, Ck.bool]))).toArray 145 (0, 0)) = Hl.one a (lObj dp sl L) := by
      intro q g
      have h : Hl.one (q.i 0).toNat (Obj.cells (List.map (CV.ev q) (ckCVs 21 ([Ck.ptr, Ck.int IntKind.i64, Ck.int IntKind.i64, Ck.int IntKind.u64, Ck.int IntKind.u64] ++ List.replicate 16 (Ck.int IntKind.u8) ++ [Ck.sl, Ck.bool]))).toArray 145 (0, 0)) = Hl.one a (lObj dp sl L) := eB q g
      rw [g.i 0 (by omega), v0, Int.toNat_natCast] at h
      exact h
    have eT : ∀ q : Env, Agree 61 ρ q → (Res.blk 0 (ckCVs 21 ([Ck.ptr, Ck.int IntKind.i64, Ck.int IntKind.i64, Ck.int IntKind.u64, Ck.int IntKind.u64] ++ List.replicate 16 (Ck.int IntKind.u8) ++ [Ck.sl]) ++ [CV.bool E.tt]) 145).hl q = Hl.one a (lObj dp sl (overL L)) := by
      intro q g
      have h : (Res.blk 0 (ckCVs 21 ([Ck.ptr, Ck.int IntKind.i64, Ck.int IntKind.i64, Ck.int IntKind.u64, Ck.int IntKind.u64] ++ List.replicate 16 (Ck.int IntKind.u8) ++ [Ck.sl]) ++ [CV.bool E.tt]) 145).hl q = Hl.one (q.i 0).toNat (.cells ((ckCVs 21 logK ++ [CV.sl (.var 43) (.var 44) (.var 45) (.var 46), .bool .tt]).map (CV.ev q)).toArray 145 (0, 0)) := rfl
      rw [h, List.map_append, logK_ev hL.1 (lk q g), g.i 0 (by omega), v0, List.map_cons, List.map_cons, List.map_nil, ls q g, List.append_assoc, ← hdp, Int.toNat_natCast]
      rfl
    have eN : ∀ q : Env, Agree 61 ρ q → (ckCVs 5 (List.replicate 16 (Ck.int IntKind.u8))).map (CV.ev q) = bys nt := fun q g => u8_ev 16 5 nt hnt fun k hk => by rw [g.i _ (by omega)]; exact rn k hk
    have i23 : ∀ q : Env, Agree 61 ρ q → q.i 21 = da ∧ q.i 22 = 0 ∧ q.i 23 = L.frm ∧ q.i 24 = L.most ∧ q.i 25 = L.serial := fun q g => ⟨lk q g 0 (by omega), lk q g 1 (by omega), lk q g 2 (by omega), lk q g 3 (by omega), lk q g 4 (by omega)⟩
    have wS : IntKind.u64.wrap (L.serial + 1) = L.serial + 1 := wrap_u64 (by omega) (by omega)
    have wL : IntKind.u64.wrap (all.length : Int) = all.length := wrap_u64 (by omega) (by omega)
    have eH : ∀ q : Env, Agree 61 ρ q → List.map (CV.ev q) ([CV.int IntKind.u64 (E.wrap IntKind.u64 ((E.var 25).add (E.lit 1))), CV.int IntKind.u64 (E.wrap IntKind.u64 (E.var 3))] ++ ckCVs 5 (List.replicate 16 (Ck.int IntKind.u8))) = hdV (newH L all nt) := by
      intro q g
      rw [List.map_append, eN q g]
      show [Value.int .u64 (IntKind.u64.wrap (q.i 25 + 1)), Value.int .u64 (IntKind.u64.wrap (q.i 3))] ++ bys nt = _
      rw [(i23 q g).2.2.2.2, g.i 3 (by omega), v3, wS, wL]; rfl
    have eG : ∀ q : Env, Agree 61 ρ q → (Res.blk 0 ([CV.hptr (E.var 21) (E.var 22), CV.int IntKind.i64 (E.var 23), CV.int IntKind.i64 (E.var 24), CV.int IntKind.u64 (E.wrap IntKind.u64 ((E.var 25).add (E.lit 1))), CV.int IntKind.u64 (E.wrap IntKind.u64 (E.var 3))] ++ ckCVs 5 (List.replicate 16 (Ck.int IntKind.u8)) ++ [CV.sl (E.var 1) (E.var 2) (E.var 3) (E.var 4), CV.bool (E.bvar 47)]) 145).hl q = Hl.one a (lObj dp u (grownL L all nt)) := by
      intro q g
      show Hl.one (q.i 0).toNat (.cells (List.map (CV.ev q) _).toArray _ (0, 0)) = _
      rw [List.map_append, List.map_append, eN q g]
      obtain ⟨j0, j1, j2, j3, j4⟩ := i23 q g
      have eb : q.b 47 = L.over := by rw [g.b 47 (by omega), ← hρ]; rfl
      show Hl.one (q.i 0).toNat (.cells ([Value.pointer (slP (q.i 21) (q.i 22)), .int .i64 (q.i 23), .int .i64 (q.i 24), .int .u64 (IntKind.u64.wrap (q.i 25 + 1)), .int .u64 (IntKind.u64.wrap (q.i 3))] ++ bys nt ++ [Value.slice (slP (q.i 1) (q.i 2)) (q.i 3).toNat (q.i 4).toNat, .bool (q.b 47)]).toArray _ (0, 0)) = _
      rw [j0, j1, j2, j3, j4, eb, g.i 0 (by omega), v0, g.i 1 (by omega), v1, g.i 2 (by omega), v2, g.i 3 (by omega), v3, g.i 4 (by omega), v4, wS, wL, dArg, ← hdp, Int.toNat_natCast, Int.toNat_natCast, Int.toNat_natCast, ← hu, List.append_assoc]
      rfl
    have hRd : LogRd (Hl.one a (lObj dp sl L)) (.pointer (some ⟨a, 0, none⟩)) dp sl L := ⟨a, rfl, hL.1, Hl.one_self _ _⟩
    have bad : ∀ (q : Env) (k : Nat) (vs : List Nat) (t : Mem) (r : Int × DM), Agree 61 ρ q → becomeR D L all nt n = r → r.1 = 5 → DiskAt (q.h k) dp r.2 →
        postOf becomeS [.pointer (some ⟨a, 0, none⟩), u, .agg (bys nt).toArray, .bool true] [H, HA, HD] [] q (.blk 0 (ckCVs 21 ([Ck.ptr, Ck.int IntKind.i64, Ck.int IntKind.i64, Ck.int IntKind.u64, Ck.int IntKind.u64] ++ List.replicate 16 (Ck.int IntKind.u8) ++ [Ck.sl]) ++ [CV.bool E.tt]) 145 :: .hp 48 [] [.var 1] [] :: .hp k vs [.var 21] [] :: t) (.sv (.one (.int .i64 (.lit 5)))) := by
      intro q k vs t r hq hr h5 hd _
      refine ⟨[[0], [1], [2]], [], rfl, rfl, ⟨⟨fun _ => 5, fun _ => false, fun _ => .empty, fun _ => .tuple #[], fun _ => Hl.none⟩, rfl, trivial, trivial⟩, _, a, u, all, nt, H, HA, HD, dp, sl, L, n, D, _, _, _, rfl, rfl, rfl, hL, hsl, hO, hD, rfl, ?_, ?_, fun h => ?_, fun _ => ?_⟩
      · show DiskAt (hls [q.h k]) _ _
        rw [hls_one, hr]; exact hd
      · rw [hr, h5]; rfl
      · rw [hr, h5] at h; cases h
      · show hls [_] = _
        rw [hls_one]; exact eT q hq
    rw [Int.toNat_natCast, eB2 q2 G2]
    refine ⟨by omega, ⟨_, u, all, n, HD, _, HA, dp, sl, L, D, rfl, rfl, rfl, hRd, hO, hD, by omega, by omega, by omega⟩, fun q3 g3 ⟨F, ⟨p', u', all', fr', Hx, R1, R2, dp', sl', L', Dx, H2, hx, hH, hR, hLx, hOx, hDx, hH2, hD2, hvq⟩, _, _⟩ => ?_⟩
    have hx : Value.pointer (some ⟨a, 0, none⟩) = p' ∧ u = u' ∧ (n : Int) = fr' := by simpa using hx
    obtain ⟨rfl, rfl, rfl⟩ := hx
    have hH : HD = Hx := by simpa using hH
    subst hH
    have hR : Hl.one a (lObj dp sl L) = R1 ∧ HA = R2 := by simpa using hR
    obtain ⟨rfl, rfl⟩ := hR
    obtain ⟨rfl, rfl, rfl⟩ := hRd.uniq hLx
    have e := hOx.rd.uniq hO.rd
    subst e
    have e := hDx.uniq hD
    subst e
    have hH2 : q3.h 63 = H2 := by simpa using hH2
    rw [← hH2] at hD2
    have hvq : q3.i 63 = (fillR Dx L.frm all' n).1 := by simpa using hvq
    have G3 : Agree 61 ρ q3 := G2.trans (g3.mono (by omega))
    rw [G3.i 0 (by omega), v0, dArg, Int.toNat_natCast, eB2 q3 G3, eH q3 G3]
    have hNH : headOK (newH L all' nt) := ⟨by simp [newH, hnt], ⟨by show 0 ≤ L.serial + 1; omega, by show L.serial + 1 < _; omega⟩, by show (0 : Int) ≤ (all'.length : Int); omega, by show (all'.length : Int) < _; omega⟩
    refine ⟨fun h63 => ⟨⟨_, _, _, _, dp, sl, L, _, rfl, rfl, rfl, hRd, hD2, hNH⟩, fun q4 g4 ⟨F, ⟨p', h', Hx, R1, dp', sl', L', Dy, H3, hx, hH, hR, hLy, hDy, hh', hH3, hD3, hvt⟩, _, _⟩ => ?_⟩, fun h63 => bad q3 63 _ _ (5, (fillR Dx L.frm all' n).2) G3 (by unfold becomeR; rw [if_pos (by rw [← hvq]; exact h63)]) rfl hD2⟩
    have hx : Value.pointer (some ⟨a, 0, none⟩) = p' ∧ Value.agg (hdV (newH L all' nt)).toArray = Value.agg (hdV h').toArray := by simpa using hx
    obtain ⟨rfl, hx2⟩ := hx
    have e := hdV_inj hNH.1 hh'.1 hx2
    subst e
    have hH : q3.h 63 = Hx := by simpa using hH
    subst hH
    have hR : Hl.one a (lObj dp sl L) = R1 := by simpa using hR
    subst hR
    obtain ⟨rfl, rfl, rfl⟩ := hRd.uniq hLy
    have e := hDy.uniq hD2
    subst e
    have hH3 : q4.h 65 = H3 := by simpa using hH3
    rw [← hH3] at hD3
    have hvt : q4.i 65 = (turnR (fillR Dx L.frm all' n).2 L.frm (newH L all' nt)).1 := by simpa using hvt
    have G4 : Agree 61 ρ q4 := G3.trans (g4.mono (by omega))
    have hnb : ¬ (fillR Dx L.frm all' n).1 ≠ 0 := by rw [← hvq, h63]; simp
    refine ⟨fun h65 => bad q4 65 _ _ (5, (turnR (fillR Dx L.frm all' n).2 L.frm (newH L all' nt)).2) G4 (by unfold becomeR; rw [if_neg hnb, if_pos (by rw [← hvt]; exact h65)]) rfl hD3, fun h65 hd => ?_⟩
    have hr : becomeR Dx L all' nt n = (0, (turnR (fillR Dx L.frm all' n).2 L.frm (newH L all' nt)).2) := by
      unfold becomeR
      rw [if_neg hnb, if_neg (by rw [← hvt, h65]; simp)]
    have hd01 := hd 0 1 _ _ (by decide) rfl rfl rfl
    rw [eG q4 G4] at hd01
    refine ⟨[[0, 1], [], [2]], [], rfl, rfl, ⟨⟨fun _ => 0, fun _ => false, fun _ => .empty, fun _ => .tuple #[], fun _ => Hl.none⟩, rfl, trivial, trivial⟩, _, a, u, all', nt, H, HA, HD, dp, sl, L, n, Dx, _, _, _, rfl, rfl, rfl, hL, hsl, hO, hD, rfl, ?_, ?_, fun _ => ?_, fun h => ?_⟩
    · show DiskAt (hls [q4.h 65]) _ _
      rw [hls_one, hr]; exact hD3
    · rw [hr]; rfl
    · have e48 : q4.h 48 = HA := by rw [G4.h 48 (by omega), w48]
      have hd01 : (Hl.one a (lObj dp u (grownL L all' nt))).dis (q4.h 48) := hd01
      rw [e48] at hd01
      refine ⟨a, u, HA, rfl, ⟨hL.1.frm, hL.1.most, hnt⟩, hO, hd01, ?_⟩
      rw [← e48]
      exact congrArg (fun z => hls [z, q4.h 48]) (eG q4 G4)
    · rw [hr] at h; exact absurd rfl h
end Go.Proofs.YtomdimlnggpgbaaGreatDoor.D
namespace Go.Proofs.YtomdimlnggpgbaaGreatDoor.D
open Go Go.Sx
structure AR where
  e : Int
  D : DM
  L : LM
  bs : List Int
def appendR (D : DM) (L : LM) (bs b nt : List Int) : AR :=
  if L.over then ⟨5, D, L, bs⟩
  else if 4611686018427387904 ≤ L.serial then ⟨14, D, L, bs⟩
  else if L.most - bs.length < b.length then ⟨4, D, L, bs⟩
  else if (becomeR D L (bs ++ b) nt bs.length).1 = 0 then ⟨0, (becomeR D L (bs ++ b) nt bs.length).2, grownL L (bs ++ b) nt, bs ++ b⟩
  else ⟨5, (becomeR D L (bs ++ b) nt bs.length).2, overL L, bs⟩
theorem becomeR_code (D : DM) (L : LM) (all nt : List Int) (n : Nat) : (becomeR D L all nt n).1 = 0 ∨ (becomeR D L all nt n).1 = 5 := by
  unfold becomeR
  split
  · exact Or.inr rfl
  · split
    · exact Or.inr rfl
    · exact Or.inl rfl
def appendS : Sx.Spec where
  fn := 53
  own := [.arg 0, .link 0 0]
  rd := [1]
  res := [.one (.int .i64)]
  pre := fun xs Hs Rs => ∃ p u b nt H HD R dp L bs D, xs = [p, u, .agg (bys nt).toArray] ∧ Hs = [H, HD] ∧ Rs = [R] ∧ LogAt H p dp L bs ∧ DiskAt HD dp D ∧ RdW R u b ∧ bs.length ≤ 1048576 ∧ nt.length = 16 ∧ 0 ≤ L.serial
  post := fun xs Hs Rs v Hs' F => ∃ p u b nt H HD R dp L bs D H' HD', xs = [p, u, .agg (bys nt).toArray] ∧ Hs = [H, HD] ∧ Rs = [R] ∧ LogAt H p dp L bs ∧ DiskAt HD dp D ∧ RdW R u b ∧ Hs' = [H', HD'] ∧ DiskAt HD' dp (appendR D L bs b nt).D ∧ LogAt H' p dp (appendR D L bs b nt).L (appendR D L bs b nt).bs ∧ v = .int .i64 (appendR D L bs b nt).e
def appendNd : Nd := .ext (.alloc 51) (.and (.imp (.bvar 47) (.post [.blk 0 (ckCVs 21 ([Ck.ptr, Ck.int .i64, Ck.int .i64, Ck.int .u64, Ck.int .u64] ++ List.replicate 16 (Ck.int .u8) ++ [Ck.sl, Ck.bool])) 145, .hp 48 [] [.var 21] [], .hp 49 [] [.var 43] [], .ro 50 [.var 1] false, .dead] (.sv (.one (.int .i64 (.lit 5)))))) (.imp (.not (.bvar 47)) (.and (.imp (.le (.lit 4611686018427387904) (.var 25)) (.post [.blk 0 (ckCVs 21 ([Ck.ptr, Ck.int .i64, Ck.int .i64, Ck.int .u64, Ck.int .u64] ++ List.replicate 16 (Ck.int .u8) ++ [Ck.sl, Ck.bool])) 145, .hp 48 [] [.var 21] [], .hp 49 [] [.var 43] [], .ro 50 [.var 1] false, .dead] (.sv (.one (.int .i64 (.lit 14)))))) (.imp (.not (.le (.lit 4611686018427387904) (.var 25))) (.and (.e (.le (.lit 0) (.var 3))) (.and (.pre (.call 0 52 [.sv (.one (.hptr (.var 0) (.lit 0)))] [] [.blk 0 (ckCVs 21 ([Ck.ptr, Ck.int .i64, Ck.int .i64, Ck.int .u64, Ck.int .u64] ++ List.replicate 16 (Ck.int .u8) ++ [Ck.sl, Ck.bool])) 145])) (.ext (.call 0 52 [.sv (.one (.hptr (.var 0) (.lit 0)))] [] [.blk 0 (ckCVs 21 ([Ck.ptr, Ck.int .i64, Ck.int .i64, Ck.int .u64, Ck.int .u64] ++ List.replicate 16 (Ck.int .u8) ++ [Ck.sl, Ck.bool])) 145]) (.and (.imp (.lt (.var 52) (.var 3)) (.post [.blk 0 (ckCVs 21 ([Ck.ptr, Ck.int .i64, Ck.int .i64, Ck.int .u64, Ck.int .u64] ++ List.replicate 16 (Ck.int .u8) ++ [Ck.sl, Ck.bool])) 145, .hp 48 [] [.var 21] [], .hp 49 [] [.var 43] [], .ro 50 [.var 1] false, .dead] (.sv (.one (.int .i64 (.lit 4)))))) (.imp (.not (.lt (.var 52) (.var 3))) (.and (.pre (.call 1 53 [.sv (.one (.hptr (.var 0) (.lit 0)))] [] [.blk 0 (ckCVs 21 ([Ck.ptr, Ck.int .i64, Ck.int .i64, Ck.int .u64, Ck.int .u64] ++ List.replicate 16 (Ck.int .u8) ++ [Ck.sl, Ck.bool])) 145, .hp 49 [] [.var 43] []])) (.ext (.call 1 53 [.sv (.one (.hptr (.var 0) (.lit 0)))] [] [.blk 0 (ckCVs 21 ([Ck.ptr, Ck.int .i64, Ck.int .i64, Ck.int .u64, Ck.int .u64] ++ List.replicate 16 (Ck.int .u8) ++ [Ck.sl, Ck.bool])) 145, .hp 49 [] [.var 43] []]) (.and (.pre (.app 57 5 1 1 (.sl (.var 53) (.var 54) (.var 55) (.var 56)) (.var 55) (.hp 53 [] [.var 53] []) (.seg 50 (.var 1) (.var 2) (.var 3)))) (.ext (.app 57 5 1 1 (.sl (.var 53) (.var 54) (.var 55) (.var 56)) (.var 55) (.hp 53 [] [.var 53] []) (.seg 50 (.var 1) (.var 2) (.var 3))) (.and (.pre (.call 2 59 [.sv (.one (.hptr (.var 0) (.lit 0))), .sv (.one (.sl (.var 57) (.lit 0) (.add (.var 55) (.var 3)) (.var 58))), .sv (.agg (ckCVs 5 (List.replicate 16 (Ck.int .u8)))), .sv (.one (.bool .tt))] [.blk 0 (ckCVs 21 ([Ck.ptr, Ck.int .i64, Ck.int .i64, Ck.int .u64, Ck.int .u64] ++ List.replicate 16 (Ck.int .u8) ++ [Ck.sl, Ck.bool])) 145, .hp 57 [53] [.var 57, .var 53] [], .hp 48 [] [.var 21] []] [])) (.ext (.call 2 59 [.sv (.one (.hptr (.var 0) (.lit 0))), .sv (.one (.sl (.var 57) (.lit 0) (.add (.var 55) (.var 3)) (.var 58))), .sv (.agg (ckCVs 5 (List.replicate 16 (Ck.int .u8)))), .sv (.one (.bool .tt))] [.blk 0 (ckCVs 21 ([Ck.ptr, Ck.int .i64, Ck.int .i64, Ck.int .u64, Ck.int .u64] ++ List.replicate 16 (Ck.int .u8) ++ [Ck.sl, Ck.bool])) 145, .hp 57 [53] [.var 57, .var 53] [], .hp 48 [] [.var 21] []] []) (.post [.hp 59 [] [.var 0] [], .hp 61 [48] [.var 21] [], .hp 49 [] [.var 43] [], .ro 50 [.var 1] false, .dead, .hp 60 [57, 53] [.var 57, .var 53] []] (.sv (.one (.int .i64 (.var 59))))))))))))))))))))
def appendΓ : List Sx.Spec := [roomS, bytesS, becomeS]
theorem appendΓ_ok : ∀ t ∈ appendΓ, t.OK Tryz.prog := fun t ht => by
  simp only [appendΓ, List.mem_cons, List.mem_nil_iff, or_false] at ht
  rcases ht with rfl | rfl | rfl
  · exact roomS_ok
  · exact bytesS_ok
  · exact becomeS_ok
def appendW : Walk Tryz.prog appendΓ appendS.fn where
  Λ := noLoops
  args := [TP (.var 0) (.lit 0), .sv (.one (.sl (.var 1) (.var 2) (.var 3) (.var 4))), .sv (.agg (ckCVs 5 (u8s 16)))]
  mem := [.blk 0 (ckCVs 21 logK ++ [.sl (.var 43) (.var 44) (.var 45) (.var 46), .bool (.bvar 47)]) 145, .hp 48 [] [.var 21] [], .hp 49 [] [.var 43] [], .ro 50 [.var 1] false]
  nv := 51
  nd := appendNd
  ok := by kernel_rfl
theorem ag0 : appendΓ[0]? = some roomS := rfl
theorem ag1 : appendΓ[1]? = some bytesS := rfl
theorem ag2 : appendΓ[2]? = some becomeS := rfl
theorem ar0 : roomS.res = [.one (.int .i64)] := rfl
theorem ar1 : bytesS.res = [.one .sl] := rfl
theorem ar2 : becomeS.res = [.one (.int .i64)] := rfl
theorem ac1 : (cpRoots 0 [Cp.one .sl] ≠ []) = True := by simp [cpRoots, Cp.roots, Ck.root]
def appEnv (a : Nat) (x y : Int) (n c : Nat) (nt : List Int) (da : Nat) (L : LM) (sx : Int) (sn sc : Nat) (HD HB R : Hl) : Env :=
  ⟨fun k => if k < 5 then [(a : Int), x, y, n, c].getD k 0 else if k < 21 then nt.getD (k - 5) 0 else if k < 43 then (lInts da L).getD (k - 21) 0 else [sx, 0, (sn : Int), (sc : Int)].getD (k - 43) 0, fun _ => L.over, fun _ => .empty, fun _ => .tuple #[], fun k => if k = 48 then HD else if k = 49 then HB else R⟩
theorem appendS_ok : appendS.OK Tryz.prog := by
  refine spec_of_fn2 (Γ := appendΓ) appendΓ_ok ?_
  rintro xs Hs Rs hl1 hl2 hdis ⟨p, u, b, nt, H, HD, R, dp, L, bs, D, rfl, rfl, rfl, hAt, hD, hB, hbs, hnt, hs0⟩
  obtain ⟨a, sl, HB, rfl, hok, hO, hone, hH⟩ := id hAt
  obtain ⟨da, s, m, es, clock, hdp, hDi⟩ := id hD
  obtain ⟨x, y, c, hu, hy, hcell⟩ := id hB
  obtain ⟨sx, sc, hsx, hsl, hsc, _⟩ := OwB.rep hO
  generalize hρ : appEnv a x y b.length c nt da L sx bs.length sc HD HB R = ρ
  have v0 : ρ.i 0 = a := by rw [← hρ]; rfl
  have v1 : ρ.i 1 = x := by rw [← hρ]; rfl
  have v2 : ρ.i 2 = y := by rw [← hρ]; rfl
  have v3 : ρ.i 3 = b.length := by rw [← hρ]; rfl
  have v4 : ρ.i 4 = c := by rw [← hρ]; rfl
  have w48 : ρ.h 48 = HD := by rw [← hρ]; rfl
  have w49 : ρ.h 49 = HB := by rw [← hρ]; rfl
  have w50 : ρ.h 50 = R := by rw [← hρ]; rfl
  have b47 : ρ.b 47 = L.over := by rw [← hρ]; rfl
  have rk : ∀ k, k < 22 → ρ.i (21 + k) = (lInts da L).getD k 0 := fun k hk => by
    rw [← hρ]
    show (if 21 + k < 5 then _ else if 21 + k < 21 then _ else if 21 + k < 43 then (lInts da L).getD (21 + k - 21) 0 else _) = _
    rw [if_neg (by omega), if_neg (by omega), if_pos (by omega), show 21 + k - 21 = k by omega]
  have rn : ∀ k, k < 16 → ρ.i (5 + k) = nt.getD k 0 := fun k hk => by
    rw [← hρ]
    show (if 5 + k < 5 then _ else if 5 + k < 21 then nt.getD (5 + k - 5) 0 else _) = _
    rw [if_neg (by omega), if_pos (by omega), show 5 + k - 5 = k by omega]
  have lk : ∀ q : Env, Agree 51 ρ q → ∀ k, k < 22 → q.i (21 + k) = (lInts da L).getD k 0 := fun q g k hk => by rw [g.i _ (by omega)]; exact rk k hk
  have ls : ∀ q : Env, Agree 51 ρ q → CV.ev q (.sl (.var 43) (.var 44) (.var 45) (.var 46)) = sl := by
    intro q g
    simp only [CV.ev, iev_var, g.i 43 (by omega), g.i 44 (by omega), g.i 45 (by omega), g.i 46 (by omega)]
    rw [← hρ, hsl]
    show Value.slice (slP sx 0) ((bs.length : Int)).toNat ((sc : Int)).toNat = _
    rw [Int.toNat_natCast, Int.toNat_natCast]
  have eB : ∀ (q : Env), Agree 51 ρ q → (Res.blk 0 (ckCVs 21 logK ++ [.sl (.var 43) (.var 44) (.var 45) (.var 46), .bool (.bvar 47)]) 145).hl q = Hl.one a (lObj dp sl L) := by
    intro q g
    show Hl.one (q.i 0).toNat (.cells ((ckCVs 21 logK ++ [CV.sl (.var 43) (.var 44) (.var 45) (.var 46), .bool (.bvar 47)]).map (CV.ev q)).toArray _ (0, 0)) = _
    have e2 : CV.ev q (.bool (.bvar 47)) = .bool L.over := by
      show Value.bool (q.b 47) = _
      rw [g.b 47 (by omega), b47]
    rw [List.map_append, logK_ev hok (lk q g), g.i 0 (by omega), v0, List.map_cons, List.map_cons, List.map_nil, ls q g, e2, List.append_assoc, ← hdp, Int.toNat_natCast]
    rfl
  have hle1 : (Hl.one a (lObj dp sl L)).le H := by rw [hH]; exact Hl.un_left _ _
  have hle2 : HB.le H := by
    rw [hH]
    show HB.le ((Hl.one a (lObj dp sl L)).un (hls [HB]))
    rw [hls_one]; exact Hl.un_right hone
  have hHD : H.dis HD := hdis 0 1 _ _ (by decide) rfl rfl
  refine ⟨appendW, ρ, fun _ _ => True, fun _ _ => 0, ?_, ⟨?_, ?_, ?_, ?_⟩, (fun _ h => nomatch h), ?_⟩
  · show [Value.pointer (slP (ρ.i 0) 0), Value.slice (slP (ρ.i 1) (ρ.i 2)) (ρ.i 3).toNat (ρ.i 4).toNat, Value.agg ((ckCVs 5 (u8s 16)).map (CV.ev ρ)).toArray] = _
    unfold u8s
    rw [v0, v1, v2, v3, v4, dArg, Int.toNat_natCast, Int.toNat_natCast, ← hu, u8_ev 16 5 nt hnt rn]
  · intro r hr ho
    simp only [appendW, List.mem_cons, List.mem_nil_iff, or_false] at hr
    rcases hr with rfl | rfl | rfl | rfl
    · refine ⟨H, by simp, ?_⟩
      rw [eB ρ (Agree.refl _ _)]; exact hle1
    · refine ⟨HD, by simp, ?_⟩
      show (ρ.h 48).le HD
      rw [w48]; exact Hl.le_refl _
    · refine ⟨H, by simp, ?_⟩
      show (ρ.h 49).le H
      rw [w49]; exact hle2
    · cases ho
  · intro r hr ho
    simp only [appendW, List.mem_cons, List.mem_nil_iff, or_false] at hr
    rcases hr with rfl | rfl | rfl | rfl
    · cases ho
    · cases ho
    · cases ho
    · refine ⟨R, by simp, ?_⟩
      show (ρ.h 50).le R
      rw [w50]; exact Hl.le_refl _
  · have d1 : HD.dis HB := fun k ⟨h1, h2⟩ => hHD k ⟨Hl.le_mem hle2 h2, h1⟩
    refine List.Pairwise.cons (fun r hr _ ho => ?_) (List.Pairwise.cons (fun r hr _ ho => ?_) (List.Pairwise.cons (fun r hr _ ho => ?_) (List.Pairwise.cons (fun r hr => by cases hr) List.Pairwise.nil)))
    · simp only [List.mem_cons, List.mem_nil_iff, or_false] at hr
      rw [eB ρ (Agree.refl _ _)]
      rcases hr with rfl | rfl | rfl
      · show Hl.dis _ (ρ.h 48)
        rw [w48]
        exact fun k ⟨h1, h2⟩ => hHD k ⟨Hl.le_mem hle1 h1, h2⟩
      · show Hl.dis _ (ρ.h 49)
        rw [w49]; exact hone
      · cases ho
    · simp only [List.mem_cons, List.mem_nil_iff, or_false] at hr
      rcases hr with rfl | rfl
      · show (ρ.h 48).dis (ρ.h 49)
        rw [w48, w49]; exact d1
      · cases ho
    · rw [List.mem_singleton] at hr
      subst hr; cases ho
  · intro r hr
    simp only [appendW, List.mem_cons, List.mem_nil_iff, or_false] at hr
    rcases hr with rfl | rfl | rfl | rfl
    · show (0 : Int) ≤ ρ.i 0
      rw [v0]; omega
    · trivial
    · trivial
    · trivial
  · show Nd.holds _ _ _ appendNd
    have eB2 : ∀ q : Env, Agree 51 ρ q → Hl.one a (Obj.cells (List.map (CV.ev q) (ckCVs 21 ([Ck.ptr, Ck.int IntKind.i64, Ck.int IntKind.i64, Ck.int IntKind.u64, Ck.int IntKind.u64] ++ List.replicate 16 (Ck.int IntKind.u8) ++ [Ck.sl, Ck.bool]))).toArray 145 (0, 0)) = Hl.one a (lObj dp sl L) := by
      intro q g
      have h : Hl.one (q.i 0).toNat (Obj.cells (List.map (CV.ev q) (ckCVs 21 ([Ck.ptr, Ck.int IntKind.i64, Ck.int IntKind.i64, Ck.int IntKind.u64, Ck.int IntKind.u64] ++ List.replicate 16 (Ck.int IntKind.u8) ++ [Ck.sl, Ck.bool]))).toArray 145 (0, 0)) = Hl.one a (lObj dp sl L) := eB q g
      rw [g.i 0 (by omega), v0, Int.toNat_natCast] at h
      exact h
    have eN : ∀ q : Env, Agree 51 ρ q → (ckCVs 5 (List.replicate 16 (Ck.int IntKind.u8))).map (CV.ev q) = bys nt := fun q g => u8_ev 16 5 nt hnt fun k hk => by rw [g.i _ (by omega)]; exact rn k hk
    have i25 : ∀ q : Env, Agree 51 ρ q → q.i 25 = L.serial := fun q g => lk q g 4 (by omega)
    have hIn : LogIn (Hl.one a (lObj dp sl L)) a dp sl L := ⟨hok, Hl.one_self _ _⟩
    have hRd : LogRd (Hl.one a (lObj dp sl L)) (.pointer (some ⟨a, 0, none⟩)) dp sl L := ⟨a, rfl, hIn⟩
    have hslO : slOf sl bs.length := OwB.slOf hO
    obtain ⟨m0, m1⟩ := hok.most
    have out : ∀ (q : Env) (t : Mem) (e : Int), Agree 51 ρ q → appendR D L bs b nt = ⟨e, D, L, bs⟩ →
        postOf appendS [.pointer (some ⟨a, 0, none⟩), u, .agg (bys nt).toArray] [H, HD] [R] q (.blk 0 (ckCVs 21 ([Ck.ptr, Ck.int IntKind.i64, Ck.int IntKind.i64, Ck.int IntKind.u64, Ck.int IntKind.u64] ++ List.replicate 16 (Ck.int IntKind.u8) ++ [Ck.sl, Ck.bool])) 145 :: .hp 48 [] [.var 21] [] :: .hp 49 [] [.var 43] [] :: t) (.sv (.one (.int .i64 (.lit e)))) := by
      intro q t e hq hr _
      refine ⟨[[0, 2], [1]], [], rfl, rfl, ⟨⟨fun _ => e, fun _ => false, fun _ => .empty, fun _ => .tuple #[], fun _ => Hl.none⟩, rfl, trivial, trivial⟩, _, u, b, nt, H, HD, R, dp, L, bs, D, _, _, rfl, rfl, rfl, hAt, hD, hB, rfl, ?_, ?_, ?_⟩
      · show DiskAt (hls [q.h 48]) _ _
        rw [hls_one, hr, hq.h 48 (by omega), w48]; exact hD
      · rw [hr]
        refine ⟨a, sl, HB, rfl, hok, hO, hone, ?_⟩
        have e49 : q.h 49 = HB := by rw [hq.h 49 (by omega), w49]
        rw [← e49]
        exact congrArg (fun z => hls [z, q.h 49]) (eB q hq)
      · rw [hr]; rfl
    unfold appendNd
    simp only [Nd.holds, X.pre, X.rel, X.n, Src.ok, Src.len, Src.vals, true_and, and_true, if_true, Nat.mul_one, Nat.add_zero, Nat.reduceAdd, List.length_cons, List.length_nil, bT_tt, bT_ff, bT_bvar, bT_not, bT_and, bT_or, bT_ite, bT_lt, bT_le, bT_eq, bT_beq, bT_seq, bT_hB, bT_his, bT_hby, bT_hism, bT_hks, iev_lit, iev_var, iev_add, iev_sub, iev_mul, iev_wrap, iev_ite, iev_hI, iev_hP, iev_hmlen, sev_ite, sev_slit, sev_sof, sev_svar, TV.ev, SV.ev, CV.ev, List.map_cons, List.map_nil, Res.hl, cpTV, Cp.sv, Ck.cv, cpSVs, Cp.len, Ck.len, newHs_zero, newHs_one, roots_ne, ag0, ag1, ag2, ar0, ar1, ar2, ac1]
    intro q1 g1 _
    rw [g1.b 47 (by omega), b47, i25 q1 g1, g1.i 3 (by omega), v3, g1.i 0 (by omega), v0, dArg, Int.toNat_natCast, eB2 q1 g1]
    refine ⟨fun ho => out q1 _ 5 g1 ?_, fun ho => ⟨fun hs => out q1 _ 14 g1 ?_, fun hs => ⟨by omega, ⟨_, _, dp, sl, L, bs.length, rfl, rfl, hRd, hslO, hbs⟩, fun q2 g2 ⟨F, ⟨p', R', dp', sl', L', n', hx, hR, hLx, hsx', hvq⟩, _, _⟩ => ?_⟩⟩⟩
    · unfold appendR; rw [if_pos ho]
    · unfold appendR; rw [if_neg ho, if_pos hs]
    have hx : Value.pointer (some ⟨a, 0, none⟩) = p' := by simpa using hx
    subst hx
    have hR : Hl.one a (lObj dp sl L) = R' := by simpa using hR
    subst hR
    obtain ⟨rfl, rfl, rfl⟩ := hRd.uniq hLx
    have e := hsx'.uniq hslO
    subst e
    have hvq : q2.i 52 = L.most - bs.length := by simpa using hvq
    have G2 : Agree 51 ρ q2 := g1.trans (g2.mono (by omega))
    rw [hvq, G2.i 3 (by omega), v3]
    refine ⟨fun hlt => out q2 _ 4 G2 ?_, fun hlt => ?_⟩
    · unfold appendR; rw [if_neg ho, if_neg hs, if_pos hlt]
    rw [G2.i 0 (by omega), v0, dArg, Int.toNat_natCast, eB2 q2 G2, G2.h 49 (by omega), w49]
    refine ⟨⟨_, _, _, dp, sl, L, bs, rfl, rfl, hRd, hO.rd, hbs⟩, fun q3 g3 ⟨F, ⟨p', R1, R2, dp', sl', L', bs', hx, hR, hLx, hBx, hO3⟩, hF, hn3⟩ => ?_⟩
    have hx : Value.pointer (some ⟨a, 0, none⟩) = p' := by simpa using hx
    subst hx
    have hR : Hl.one a (lObj dp sl L) = R1 ∧ HB = R2 := by simpa using hR
    obtain ⟨rfl, rfl⟩ := hR
    obtain ⟨rfl, rfl, rfl⟩ := hRd.uniq hLx
    have e := hBx.uniq hO.rd
    subst e
    have hF := hF trivial
    subst hF
    obtain ⟨⟨n53, n54, n55, n56⟩, _⟩ := hn3
    have n54 : 0 ≤ q3.i 54 := n54
    have n55 : 0 ≤ q3.i 55 := n55
    obtain ⟨e55, _⟩ := hO3.rd.at n53 n54 n55
    have G3 : Agree 51 ρ q3 := G2.trans (g3.mono (by omega))
    rw [G3.i 1 (by omega), v1, G3.i 2 (by omega), v2, G3.i 3 (by omega), v3, G3.h 50 (by omega), w50, e55]
    rw [e55] at hO3
    have hO3' : OwnsH (q3.h 53) 5 1 (.slice (slP (q3.i 53) (q3.i 54)) ((bs'.length : Int)).toNat (q3.i 56).toNat) ((bs'.length : Int)).toNat (bys bs') := by
      unfold OwB at hO3
      rw [Int.toNat_natCast] at hO3 ⊢
      exact hO3
    have hsum : (bs'.length : Int) + b.length ≤ 1048576 := by omega
    refine ⟨⟨⟨_, hO3'⟩, by omega, ?_, by unfold maxLen; omega, by omega⟩, fun q4 g4 ⟨a1, a2, a3, _⟩ => ?_⟩
    · rcases hcell with hb | ⟨hx0, hcell⟩
      · subst hb; exact Or.inr rfl
      · refine Or.inl ⟨hx0, hy, by omega, fun j hj => ?_⟩
        have hj : j < b.length := by omega
        exact ⟨_, hcell j _ (List.getElem?_eq_getElem hj), rfl⟩
    have hseg : segVals R x.toNat y.toNat ((b.length : Int)).toNat = bys b := by
      rw [Int.toNat_natCast]
      unfold segVals
      apply List.ext_getElem?
      intro j
      rw [List.getElem?_map, bys_get]
      rcases Nat.lt_or_ge j b.length with hj | hj
      · rcases hcell with hb | ⟨hx0, hcell⟩
        · subst hb; cases hj
        · rw [List.getElem?_range hj, Option.map_some, hcell j _ (List.getElem?_eq_getElem hj), List.getElem?_eq_getElem hj]
          rfl
      · rw [List.getElem?_eq_none (by simpa using hj), List.getElem?_eq_none (by omega)]; rfl
    have hx4 := a3 _ hO3'
    rw [hseg] at hx4
    have G4 : Agree 51 ρ q4 := G3.trans (g4.mono (by omega))
    have x55 : q4.i 55 = bs'.length := by rw [g4.i 55 (by omega), e55]
    have hO4 : OwB (q4.h 57) 5 (.slice (slP (q4.i 57) 0) ((bs'.length : Int) + b.length).toNat (q4.i 58).toNat) (bs' ++ b) := by
      unfold OwB
      rw [bys_append, List.length_append]
      rw [show ((bs'.length : Int) + b.length).toNat = bs'.length + b.length by omega]
      rw [Int.toNat_natCast, Int.toNat_natCast] at hx4
      exact hx4
    rw [G4.i 0 (by omega), v0, dArg, Int.toNat_natCast, eB2 q4 G4, eN q4 G4, x55, G4.i 3 (by omega), v3, G4.h 48 (by omega), w48]
    refine ⟨⟨_, a, _, bs' ++ b, nt, _, _, HD, dp, sl, L, bs'.length, D, rfl, rfl, rfl, hIn, hslO, hbs, hO4, by rw [List.length_append]; omega, hnt, hD, hs0, by omega⟩, fun q5 g5 ⟨F, ⟨p', a', u', all', nt', H1, HA, HDx, dp', sl', L', n', D', H', HA', HD', hx, hH, hp, hLx, hsx', hOx, hDx, hHs, hDy, hvb, hok0, hbad⟩, _, _⟩ => ?_⟩
    have hx : Value.pointer (some ⟨a, 0, none⟩) = p' ∧ Value.slice (slP (q4.i 57) 0) ((bs'.length : Int) + b.length).toNat (q4.i 58).toNat = u' ∧ bys nt = bys nt' ∧ bev q4 E.tt = true := by simpa using hx
    obtain ⟨hx1, hx2, hx3, _⟩ := hx
    have hx3 := bys_inj hx3
    subst hx1 hx2 hx3
    have hH : Hl.one a (lObj dp sl L) = H1 ∧ q4.h 57 = HA ∧ HD = HDx := by simpa using hH
    obtain ⟨hH1, hH2, hH3⟩ := hH
    subst hH1 hH2 hH3
    have hp : a = a' := by simpa using hp
    subst hp
    obtain ⟨rfl, rfl, rfl⟩ := LogRd.uniq hRd ⟨a, rfl, hLx⟩
    have e := hsx'.uniq hslO
    subst e
    have e := hOx.rd.uniq hO4.rd
    subst e
    have e := hDx.uniq hD
    subst e
    have hHs : q5.h 59 = H' ∧ q5.h 60 = HA' ∧ q5.h 61 = HD' := by
      have h1 : [q5.h 59, q5.h 60, q5.h 61] = [H', HA', HD'] := hHs
      simpa using h1
    obtain ⟨h59, h60, h61⟩ := hHs
    have hvb : q5.i 59 = (becomeR D' L (bs' ++ b) nt bs'.length).1 := by simpa using hvb
    have G5 : Agree 51 ρ q5 := G4.trans (g5.mono (by omega))
    have e49 : q5.h 49 = HB := by rw [G5.h 49 (by omega), w49]
    intro hd
    by_cases hz : (becomeR D' L (bs' ++ b) nt bs'.length).1 = 0
    · have hr : appendR D' L bs' b nt = ⟨0, (becomeR D' L (bs' ++ b) nt bs'.length).2, grownL L (bs' ++ b) nt, bs' ++ b⟩ := by
        unfold appendR
        rw [if_neg ho, if_neg hs, if_neg hlt, if_pos hz]
      refine ⟨[[0], [1]], [], rfl, rfl, ⟨⟨fun _ => q5.i 59, fun _ => false, fun _ => .empty, fun _ => .tuple #[], fun _ => Hl.none⟩, rfl, trivial, trivial⟩, _, u, b, nt, H, HD, R, dp, L, bs', D', _, _, rfl, rfl, rfl, hAt, hD, hB, rfl, ?_, ?_, ?_⟩
      · show DiskAt (hls [q5.h 61]) _ _
        rw [hls_one, hr, h61]; exact hDy
      · show LogAt (hls [q5.h 59]) _ _ _ _
        rw [hls_one, hr, h59]; exact hok0 hz
      · show Value.int .i64 (q5.i 59) = _
        rw [hr, hvb, hz]
    · have h5 := (becomeR_code D' L (bs' ++ b) nt bs'.length).resolve_left hz
      have hr : appendR D' L bs' b nt = ⟨5, (becomeR D' L (bs' ++ b) nt bs'.length).2, overL L, bs'⟩ := by
        unfold appendR
        rw [if_neg ho, if_neg hs, if_neg hlt, if_neg hz]
      have hd02 : (q5.h 59).dis (q5.h 49) := hd 0 2 _ _ (by decide) rfl rfl rfl
      have hH' := hbad hz
      rw [h59, hH', e49] at hd02
      refine ⟨[[0, 2], [1]], [], rfl, rfl, ⟨⟨fun _ => q5.i 59, fun _ => false, fun _ => .empty, fun _ => .tuple #[], fun _ => Hl.none⟩, rfl, trivial, trivial⟩, _, u, b, nt, H, HD, R, dp, L, bs', D', _, _, rfl, rfl, rfl, hAt, hD, hB, rfl, ?_, ?_, ?_⟩
      · show DiskAt (hls [q5.h 61]) _ _
        rw [hls_one, hr, h61]; exact hDy
      · rw [hr]
        refine ⟨a, sl, HB, rfl, ⟨hok.frm, hok.most, hok.note⟩, hO, hd02, ?_⟩
        show hls [q5.h 59, q5.h 49] = _
        rw [h59, hH', e49]
      · show Value.int .i64 (q5.i 59) = _
        rw [hr, hvb, h5]
end Go.Proofs.YtomdimlnggpgbaaGreatDoor.D
namespace Go.Proofs.YtomdimlnggpgbaaGreatDoor.D
open Go Go.Sx
structure Sure (D : DM) : Prop where
  ok : D.ok
  fuse : D.fuse = -1
  gone : D.gone = false
theorem putD_sure {D : DM} (h : Sure D) {i : Int} (hi : D.has i = true) {bs : List Int} (hb : bs.length = 64) : Sure (putD D i bs) := ⟨putD_ok h.ok hi hb, by show (if 0 < D.fuse then D.fuse - 1 else D.fuse) = -1; rw [h.fuse]; rfl, rfl⟩
theorem writeR_sure {D : DM} (h : Sure D) {i : Int} (hi : D.has i = true) {bs : List Int} (hb : bs.length = 64) : writeR D i bs = (0, putD D i bs) := by
  unfold writeR
  rw [if_neg (by rw [hi, hb]; simp), if_neg (by rw [h.gone]; simp), if_neg (by rw [h.fuse]; decide)]
theorem syncR_sure {D : DM} (h : Sure D) : (syncR D).1 = 0 ∧ Sure (syncR D).2 ∧ (syncR D).2.now = D.now ∧ (syncR D).2.n = D.n := by
  have e : syncR D = (0, ⟨D.n, D.now, [], if 0 < D.fuse then D.fuse - 1 else D.fuse, D.gone⟩) := by
    unfold syncR
    rw [if_neg (by rw [h.gone]; simp), if_neg (by rw [h.fuse]; decide)]
  rw [e]
  refine ⟨rfl, ⟨⟨h.ok.now, h.ok.n, ?_, ?_, fun p hp => by cases hp⟩, ?_, h.gone⟩, rfl, rfl⟩
  · show -1 ≤ (if 0 < D.fuse then D.fuse - 1 else D.fuse); rw [h.fuse]; decide
  · show (if 0 < D.fuse then D.fuse - 1 else D.fuse) ≤ _; rw [h.fuse]; decide
  · show (if 0 < D.fuse then D.fuse - 1 else D.fuse) = -1; rw [h.fuse]; rfl
theorem putD_get {D : DM} (h : D.ok) {i : Int} (hi : D.has i = true) {bs : List Int} (hb : bs.length = 64) (j : Nat) : (putD D i bs).now[j]? = if 64 * i.toNat ≤ j ∧ j < 64 * i.toNat + 64 then bs[j - 64 * i.toNat]? else D.now[j]? := by
  have hh : 0 ≤ i ∧ i < D.n := by unfold DM.has at hi; simpa using hi
  show (splice D.now (64 * i.toNat) bs)[j]? = _
  rw [Sx.splice_get (by rw [h.now, hb]; omega), hb]
theorem secA_length (all : List Int) (i : Nat) : (secA all i).length = 64 := by simp [secA]
theorem secA_get (all : List Int) (i j : Nat) (h : j < 64) (hj : 64 * i + j < all.length) : (secA all i)[j]? = all[64 * i + j]? := by
  unfold secA
  rw [List.getElem?_map, List.getElem?_range h, Option.map_some, List.getElem?_eq_getElem hj, Option.getD_some]
theorem fillGo_sure (frm : Nat) (all : List Int) : ∀ (f i : Nat) (D : DM), Sure D → all.length + 1 ≤ f + i → all.length + 64 * (frm + 2) ≤ 64 * D.n →
    (fillGo frm all f i D).1 = 0 ∧ Sure (fillGo frm all f i D).2 ∧ (fillGo frm all f i D).2.n = D.n ∧ (∀ j, j < 64 * (frm + 2 + i) → (fillGo frm all f i D).2.now[j]? = D.now[j]?) ∧ (∀ t, 64 * i ≤ t → t < all.length → (fillGo frm all f i D).2.now[64 * (frm + 2) + t]? = all[t]?) := by
  intro f
  induction f with
  | zero =>
    intro i D h h1 h2
    obtain ⟨a, b, c, d⟩ := syncR_sure h
    show (syncR D).1 = 0 ∧ _
    refine ⟨a, b, d, fun j _ => ?_, fun t ht ht' => by omega⟩
    show (syncR D).2.now[j]? = _
    rw [c]
  | succ f ih =>
    intro i D h h1 h2
    have ec : (frm : Int) + 2 + i = ((frm + 2 + i : Nat) : Int) := by omega
    by_cases hlt : 64 * i < all.length
    · have hi : D.has ((frm : Int) + 2 + i) = true := by unfold DM.has; simp only [decide_eq_true_eq]; omega
      have hw := writeR_sure h hi (secA_length all i)
      have e : fillGo frm all (f + 1) i D = fillGo frm all f (i + 1) (putD D ((frm : Int) + 2 + i) (secA all i)) := by
        show (if 64 * i < all.length then _ else _) = _
        rw [if_pos hlt, hw]; simp
      rw [e]
      have hS := putD_sure h hi (secA_length all i)
      obtain ⟨a, b, c, d, g⟩ := ih (i + 1) _ hS (by omega) h2
      have gp := putD_get h.ok hi (secA_length all i)
      refine ⟨a, b, c, fun j hj => ?_, fun t ht ht' => ?_⟩
      · rw [d j (by omega), gp, ec, Int.toNat_natCast, if_neg (by omega)]
      · rcases Nat.lt_or_ge t (64 * (i + 1)) with h3 | h3
        · rw [d _ (by omega), gp, ec, Int.toNat_natCast, if_pos (by omega), secA_get all i _ (by omega) (by omega)]
          congr 1; omega
        · exact g t h3 ht'
    · have e : fillGo frm all (f + 1) i D = syncR D := by
        show (if 64 * i < all.length then _ else _) = _
        rw [if_neg hlt]
      rw [e]
      obtain ⟨a, b, c, d⟩ := syncR_sure h
      exact ⟨a, b, d, fun j _ => by rw [c], fun t ht ht' => by omega⟩
structure Holds (D : DM) (frm : Nat) (n : Int) (k : Nat) (all nt : List Int) : Prop where
  sure : Sure D
  rng : 3 ≤ n ∧ (frm : Int) + n ≤ D.n
  len : (all.length : Int) ≤ 64 * (n - 2)
  note : nt.length = 16
  cur : lreadR D frm (64 * (n - 2)) ((k % 2 : Nat) : Int) = ((k : Int) :: (all.length : Int) :: nt, 0)
  oth : (lreadR D frm (64 * (n - 2)) (((k + 1) % 2 : Nat) : Int)).1.getD 0 0 < k ∨ (k = 0 ∧ (lreadR D frm (64 * (n - 2)) 1).1.getD 0 0 = 0)
  bytes : ∀ t z, all[t]? = some z → D.now[64 * (frm + 2) + t]? = some z
theorem Holds.openE {D : DM} {frm : Nat} {n : Int} {k : Nat} {all nt : List Int} (h : Holds D frm n k all nt) : openE D frm n = 0 := by
  obtain ⟨h1, h2⟩ := h.rng
  unfold Go.Proofs.YtomdimlnggpgbaaGreatDoor.D.openE
  rw [if_neg (by omega), h.sure.gone]; rfl
theorem Holds.openH {D : DM} {frm : Nat} {n : Int} {k : Nat} {all nt : List Int} (h : Holds D frm n k all nt) : openH D frm n = (k : Int) :: (all.length : Int) :: nt := by
  have hc := h.cur
  have ho := h.oth
  unfold Go.Proofs.YtomdimlnggpgbaaGreatDoor.D.openH
  rcases Nat.mod_two_eq_zero_or_one k with e | e
  · have e' : (k + 1) % 2 = 1 := by omega
    rw [e] at hc
    rw [e'] at ho
    have hc : lreadR D frm (64 * (n - 2)) 0 = _ := hc
    rw [hc]
    show (if (k : Int) < _ then _ else _) = _
    rw [if_neg]
    rcases ho with ho | ⟨hk, ho⟩
    · have ho : (lreadR D frm (64 * (n - 2)) 1).1.getD 0 0 < k := ho
      omega
    · rw [ho]; omega
  · have e' : (k + 1) % 2 = 0 := by omega
    rw [e] at hc
    rw [e'] at ho
    have hc : lreadR D frm (64 * (n - 2)) 1 = _ := hc
    rw [hc]
    show (if _ < (k : Int) then _ else _) = _
    rw [if_pos]
    rcases ho with ho | ⟨hk, ho⟩
    · exact ho
    · omega
theorem Holds.openL {D : DM} {frm : Nat} {n : Int} {k : Nat} {all nt : List Int} (h : Holds D frm n k all nt) : openL D frm n = ⟨frm, 64 * (n - 2), k, all.length, nt, false⟩ := by
  unfold Go.Proofs.YtomdimlnggpgbaaGreatDoor.D.openL headL
  rw [h.openH]; rfl
theorem Holds.openB {D : DM} {frm : Nat} {n : Int} {k : Nat} {all nt : List Int} (h : Holds D frm n k all nt) : openB D frm n = all := by
  obtain ⟨h1, h2⟩ := h.rng
  have hl := h.len
  unfold Go.Proofs.YtomdimlnggpgbaaGreatDoor.D.openB bytesAt
  rw [h.openL]
  show (D.now.drop (64 * ((frm : Int) + 2).toNat)).take ((all.length : Int)).toNat = all
  rw [show ((frm : Int) + 2).toNat = frm + 2 by omega, Int.toNat_natCast]
  apply List.ext_getElem?
  intro j
  rw [List.getElem?_take]
  split
  · rename_i hj
    rw [List.getElem?_drop, h.bytes j _ (List.getElem?_eq_getElem hj), List.getElem?_eq_getElem hj]
  · rw [List.getElem?_eq_none (by omega)]
theorem lread_sector {D : DM} (h : Sure D) {frm most place : Int} (hi : D.has (frm + place) = true) : lreadR D frm most place = if goodH (D.sector (frm + place)) most place then (headI ((D.sector (frm + place)).take 32), 0) else (zeros18, 0) := by
  unfold lreadR
  rw [readR_in hi h.gone]
  simp
theorem lread_same {D D' : DM} (h : Sure D) (h' : Sure D') (hn : D'.n = D.n) {frm most place : Int} (hi : D.has (frm + place) = true) (hs : D'.sector (frm + place) = D.sector (frm + place)) : lreadR D' frm most place = lreadR D frm most place := by
  have hi' : D'.has (frm + place) = true := by unfold DM.has at hi ⊢; rw [hn]; exact hi
  rw [lread_sector h hi, lread_sector h' hi', hs]
theorem sector_same {D D' : DM} {i : Int} (h : ∀ j, 64 * i.toNat ≤ j → j < 64 * i.toNat + 64 → D'.now[j]? = D.now[j]?) : D'.sector i = D.sector i := by
  unfold DM.sector
  apply List.ext_getElem?
  intro j
  rw [List.getElem?_take, List.getElem?_take]
  split
  · rw [List.getElem?_drop, List.getElem?_drop]
    exact h _ (by omega) (by omega)
  · rfl
theorem be8_length (x : Int) : (be8 x).length = 8 := rfl
theorem half_head {a b : Int} {nt : List Int} (ha : 0 ≤ a ∧ a < 18446744073709551616) (hb : 0 ≤ b ∧ b < 18446744073709551616) (hn : nt.length = 16) :
    (halfL (a :: b :: nt)).length = 32 ∧ headI (halfL (a :: b :: nt)) = a :: b :: nt ∧ bigI ((halfL (a :: b :: nt)).take 8) = a ∧ bigI (((halfL (a :: b :: nt)).drop 8).take 8) = b := by
  have e : halfL (a :: b :: nt) = be8 a ++ be8 b ++ nt := by
    unfold halfL
    show be8 a ++ be8 b ++ nt.take 16 = _
    rw [List.take_of_length_le (by omega)]
  have h1 : ((be8 a ++ be8 b ++ nt).take 8) = be8 a := by rw [List.append_assoc, List.take_append_of_le_length (by rw [be8_length]; omega), List.take_of_length_le (by rw [be8_length]; omega)]
  have h2 : ((be8 a ++ be8 b ++ nt).drop 8) = be8 b ++ nt := by rw [List.append_assoc, List.drop_left' (be8_length a)]
  have h3 : (((be8 a ++ be8 b ++ nt).drop 8).take 8) = be8 b := by rw [h2, List.take_append_of_le_length (by rw [be8_length]; omega), List.take_of_length_le (by rw [be8_length]; omega)]
  have h4 : ((be8 a ++ be8 b ++ nt).drop 16).take 16 = nt := by
    rw [List.drop_left' (by rw [List.length_append, be8_length, be8_length]), List.take_of_length_le (by omega)]
  rw [e]
  refine ⟨by simp [be8_length, hn], ?_, ?_, ?_⟩
  · unfold headI
    rw [h1, h3, h4, big_be8 ha.1 ha.2, big_be8 hb.1 hb.2]; rfl
  · rw [h1, big_be8 ha.1 ha.2]
  · rw [h3, big_be8 hb.1 hb.2]
theorem Holds.append {D : DM} {frm : Nat} {n : Int} {k : Nat} {all nt : List Int} (h : Holds D frm n k all nt) {b nt' : List Int} (hb : (all.length : Int) + b.length ≤ 64 * (n - 2)) (hk : k < 1000000) (hn' : nt'.length = 16) :
    (appendR D ⟨frm, 64 * (n - 2), k, all.length, nt, false⟩ all b nt').e = 0 ∧ Holds (appendR D ⟨frm, 64 * (n - 2), k, all.length, nt, false⟩ all b nt').D frm n (k + 1) (all ++ b) nt' ∧
    (appendR D ⟨frm, 64 * (n - 2), k, all.length, nt, false⟩ all b nt').bs = all ++ b ∧ (appendR D ⟨frm, 64 * (n - 2), k, all.length, nt, false⟩ all b nt').L = ⟨frm, 64 * (n - 2), (k + 1 : Nat), (all ++ b).length, nt', false⟩ := by
  obtain ⟨r1, r2⟩ := h.rng
  have hDn := h.sure.ok.n
  have hal : (all ++ b).length = all.length + b.length := List.length_append
  obtain ⟨L, hL⟩ : ∃ L : LM, L = ⟨frm, 64 * (n - 2), k, all.length, nt, false⟩ := ⟨_, rfl⟩
  rw [← hL]
  have f1 : L.frm = frm := by rw [hL]
  have f2 : L.most = 64 * (n - 2) := by rw [hL]
  have f3 : L.serial = k := by rw [hL]
  have f4 : L.over = false := by rw [hL]
  obtain ⟨F, hF⟩ : ∃ F, F = (fillR D L.frm (all ++ b) all.length).2 := ⟨_, rfl⟩
  obtain ⟨a1, a2, a3, a4, a5⟩ := fillGo_sure frm (all ++ b) ((all ++ b).length + 1) (all.length / 64) D h.sure (by omega) (by omega)
  have efr : fillR D L.frm (all ++ b) all.length = fillGo frm (all ++ b) ((all ++ b).length + 1) (all.length / 64) D := by
    unfold fillR
    rw [f1, show (((all.length : Nat) : Int) / 64).toNat = all.length / 64 by omega]
  rw [← efr] at a1 a2 a3 a4 a5
  rw [← hF] at a2 a3 a4 a5
  obtain ⟨N, hN⟩ : ∃ N, N = newH L (all ++ b) nt' := ⟨_, rfl⟩
  have eN : N = ((k + 1 : Nat) : Int) :: ((all ++ b).length : Int) :: nt' := by
    rw [hN]; unfold newH; rw [f3]; rfl
  have hp : ((k + 1 : Nat) : Int).tmod 2 = (((k + 1) % 2 : Nat) : Int) := by
    rw [Int.tmod_eq_emod_of_nonneg (by omega)]; omega
  obtain ⟨p, hpp⟩ : ∃ p, p = (k + 1) % 2 := ⟨_, rfl⟩
  have hp2 : p < 2 := by omega
  obtain ⟨b1, b2, b3, b4⟩ := half_head (a := ((k + 1 : Nat) : Int)) (b := ((all ++ b).length : Int)) (nt := nt') ⟨by omega, by omega⟩ ⟨by omega, by omega⟩ hn'
  rw [← eN] at b1 b2 b3 b4
  have hhl : (halfL N ++ halfL N).length = 64 := by rw [List.length_append, b1]
  have ei : ∀ q : Nat, (frm : Int) + ((q : Nat) : Int) = ((frm + q : Nat) : Int) := fun q => by omega
  have hasF : ∀ q : Nat, q < 2 → F.has ((frm : Int) + (q : Int)) = true := fun q hq => by unfold DM.has; rw [a3]; simp only [decide_eq_true_eq]; omega
  have hasD : ∀ q : Nat, q < 2 → D.has ((frm : Int) + (q : Int)) = true := fun q hq => by unfold DM.has; simp only [decide_eq_true_eq]; omega
  have hw := writeR_sure a2 (hasF p hp2) hhl
  obtain ⟨G, hG⟩ : ∃ G, G = putD F ((frm : Int) + (p : Int)) (halfL N ++ halfL N) := ⟨_, rfl⟩
  rw [← hG] at hw
  have hGs : Sure G := by rw [hG]; exact putD_sure a2 (hasF p hp2) hhl
  have hGn : G.n = D.n := by rw [hG, ← a3]; rfl
  have hGg := putD_get a2.ok (hasF p hp2) hhl
  rw [← hG, ei p, Int.toNat_natCast] at hGg
  obtain ⟨s1, s2, s3, s4⟩ := syncR_sure hGs
  have htn : turnR F L.frm N = syncR G := by
    unfold turnR
    have e0 : N.getD 0 0 = ((k + 1 : Nat) : Int) := by rw [eN]; rfl
    rw [f1, e0, hp, ← hpp, hw]; simp
  have hbec : becomeR D L (all ++ b) nt' all.length = (0, (syncR G).2) := by
    unfold becomeR
    rw [if_neg (by rw [a1]; simp), ← hF, ← hN, htn, if_neg (by rw [s1]; simp)]
  have happ : appendR D L all b nt' = ⟨0, (syncR G).2, grownL L (all ++ b) nt', all ++ b⟩ := by
    unfold appendR
    rw [f4, f3, f2, if_neg (by simp), if_neg (by omega), if_neg (by omega), hbec]; rfl
  rw [happ]
  refine ⟨rfl, ⟨s2, ⟨r1, by show (frm : Int) + n ≤ ((syncR G).2.n : Int); rw [s4, hGn]; exact r2⟩, by rw [hal]; omega, hn', ?_, Or.inl ?_, ?_⟩, rfl, by unfold grownL; rw [f1, f2, f3, f4]; rfl⟩
  · rw [← hpp]
    have hi : (syncR G).2.has ((frm : Int) + (p : Int)) = true := by unfold DM.has; rw [s4, hGn]; exact hasD p hp2
    have hsec : (syncR G).2.sector ((frm : Int) + (p : Int)) = halfL N ++ halfL N := by
      unfold DM.sector
      rw [s3, ei p, Int.toNat_natCast]
      apply List.ext_getElem?
      intro j
      rw [List.getElem?_take]
      split
      · rename_i hj
        rw [List.getElem?_drop, hGg, if_pos (by omega)]
        congr 1; omega
      · rw [List.getElem?_eq_none (by omega)]
    show lreadR (syncR G).2 frm (64 * (n - 2)) (p : Int) = _
    rw [lread_sector s2 hi, hsec]
    have ht : (halfL N ++ halfL N).take 32 = halfL N := by rw [List.take_left' b1]
    have hdr : (halfL N ++ halfL N).drop 32 = halfL N := by rw [List.drop_left' b1]
    rw [if_pos, ht, b2, eN]
    unfold goodH
    rw [ht, hdr, b3, b4]
    exact ⟨rfl, by rw [hp, hpp], by omega⟩
  · have hq : (k + 1 + 1) % 2 = k % 2 := by omega
    rw [hq]
    obtain ⟨c, hc⟩ : ∃ c, c = k % 2 := ⟨_, rfl⟩
    have hcur := h.cur
    rw [← hc] at hcur ⊢
    have hc2 : c < 2 := by omega
    have hcp : c ≠ p := by omega
    have hsec : (syncR G).2.sector ((frm : Int) + (c : Int)) = D.sector ((frm : Int) + (c : Int)) := by
      refine sector_same fun j h1 h2 => ?_
      rw [ei c, Int.toNat_natCast] at h1 h2
      rw [s3, hGg, if_neg (by omega)]
      exact a4 j (by omega)
    rw [lread_same h.sure s2 (by rw [s4, hGn]) (hasD c hc2) hsec, hcur]
    show (k : Int) < ((k + 1 : Nat) : Int)
    omega
  · intro t z ht
    have hlt := (List.getElem?_eq_some_iff.1 ht).1
    show (syncR G).2.now[64 * (frm + 2) + t]? = some z
    rw [s3, hGg, if_neg (by omega)]
    rcases Nat.lt_or_ge t (64 * (all.length / 64)) with h1 | h1
    · rw [a4 _ (by omega)]
      refine h.bytes t z ?_
      rw [List.getElem?_append_left (by omega)] at ht
      exact ht
    · rw [a5 t h1 hlt]; exact ht
theorem newD_sure (n : Int) : Sure (newD n) := by
  refine ⟨⟨?_, ?_, ?_, ?_, fun p hp => by cases hp⟩, rfl, rfl⟩
  · show (List.replicate (64 * sects n) (0 : Int)).length = 64 * sects n
    rw [List.length_replicate]
  · show sects n ≤ 16384
    unfold sects; omega
  · exact Int.le_refl (-1)
  · show (-1 : Int) ≤ _; omega
theorem newD_holds {m n : Int} {frm : Nat} (hm : 0 ≤ m ∧ m ≤ 16384) (hn : 3 ≤ n) (hr : (frm : Int) + n ≤ m) : Holds (newD m) frm n 0 [] (List.replicate 16 0) := by
  have hs : sects m = m.toNat := by unfold sects; omega
  have hnn : (newD m).n = m.toNat := hs
  have hS := newD_sure m
  have hsec : ∀ p : Nat, p < 2 → (newD m).sector ((frm : Int) + (p : Int)) = List.replicate 64 0 := by
    intro p hp
    unfold DM.sector
    show ((List.replicate (64 * sects m) (0 : Int)).drop _).take 64 = _
    rw [List.drop_replicate, List.take_replicate, hs]
    congr 1; omega
  have hz : bigI (List.replicate 8 0) = 0 := by decide
  have hrd : ∀ p : Nat, p < 2 → lreadR (newD m) frm (64 * (n - 2)) (p : Int) = (zeros18, 0) := by
    intro p hp
    have hi : (newD m).has ((frm : Int) + (p : Int)) = true := by unfold DM.has; rw [hnn]; simp only [decide_eq_true_eq]; omega
    rw [lread_sector hS hi, hsec p hp]
    split
    · rfl
    · rfl
  refine ⟨hS, ⟨hn, by rw [hnn]; omega⟩, by show (0 : Int) ≤ _; omega, rfl, ?_, Or.inr ⟨rfl, ?_⟩, fun t z h => by cases h⟩
  · exact hrd 0 (by omega)
  · have := hrd 1 (by omega)
    have this : lreadR (newD m) frm (64 * (n - 2)) 1 = (zeros18, 0) := this
    rw [this]; rfl
end Go.Proofs.YtomdimlnggpgbaaGreatDoor.D
namespace Go.Proofs.YtomdimlnggpgbaaGreatDoor.D
open Go Go.Sx
def serialS : Sx.Spec where
  fn := 90
  own := []
  rd := [0]
  res := [.one (.int .u64)]
  pre := fun xs Hs Rs => ∃ p R dp sl L, xs = [p] ∧ Rs = [R] ∧ LogRd R p dp sl L
  post := fun xs Hs Rs v Hs' F => ∃ p R dp sl L, xs = [p] ∧ Rs = [R] ∧ LogRd R p dp sl L ∧ v = .int .u64 L.serial
def serialNd : Nd := .and (.e (.le (.lit 0) (.var 0))) (.and (.e (.his 2 (.var 0) (.lit 3) 0 (.int .u64))) (.post [.ro 1 [.hP 2 (.var 0) (.lit 21) 0 0] false, .ro 2 [.var 0] false] (.sv (.one (.int .u64 (.hI 2 (.var 0) (.lit 3) 0))))))
def serialW : Walk Tryz.prog [] serialS.fn where
  Λ := noLoops
  args := [TP (.var 0) (.lit 0)]
  mem := rdMem
  nv := 3
  nd := serialNd
  ok := by kernel_rfl
theorem serialS_ok : serialS.OK Tryz.prog := by
  refine Spec.of_fn (Γ := []) (fun _ h => by cases h) ?_
  rintro xs Hs Rs hl1 hl2 ⟨p, R, dp, sl, L, rfl, rfl, ⟨a, rfl, hL⟩⟩
  have e0 : Hs = [] := List.length_eq_zero_iff.1 hl1
  subst e0
  refine ⟨serialW, rdLog a R R, fun _ _ => True, fun _ _ => 0, ?_, rdEntry a R R _ (by simp) (by simp), (fun _ h => nomatch h), ?_⟩
  · show [Value.pointer (slP (a : Int) 0)] = _; rw [dArg]
  · show Nd.holds _ _ _ serialNd
    unfold serialNd
    simp only [Nd.holds, X.pre, X.rel, X.n, Src.ok, Src.len, Src.vals, true_and, and_true, if_true, Nat.mul_one, Nat.add_zero, Nat.reduceAdd, List.length_cons, List.length_nil, bT_tt, bT_ff, bT_bvar, bT_not, bT_and, bT_or, bT_ite, bT_lt, bT_le, bT_eq, bT_beq, bT_seq, bT_hB, bT_his, bT_hby, bT_hism, bT_hks, iev_lit, iev_var, iev_add, iev_sub, iev_mul, iev_wrap, iev_ite, iev_hI, iev_hP, iev_hmlen, sev_ite, sev_slit, sev_sof, sev_svar, TV.ev, SV.ev, CV.ev, List.map_cons, List.map_nil, Res.hl]
    have v0 : (rdLog a R R).i 0 = a := rfl
    have w2 : (rdLog a R R).h 2 = R := rfl
    have c3 : R.cell a 3 = some (.int .u64 L.serial) := by rw [hL.cell]; rfl
    rw [v0, w2, Int.toNat_natCast, show Int.toNat 3 = 3 from rfl, c3]
    refine ⟨by omega, rfl, fun _ => ⟨[], [], rfl, rfl, ⟨⟨fun _ => L.serial, fun _ => false, fun _ => .empty, fun _ => .tuple #[], fun _ => Hl.none⟩, ?_, trivial, trivial⟩, _, R, dp, sl, L, rfl, rfl, ⟨a, rfl, hL⟩, ?_⟩⟩
    all_goals
      show Value.int .u64 (valI (R.cell ((a : Int)).toNat 3)) = Value.int .u64 L.serial
      rw [Int.toNat_natCast, c3]; rfl
def clearR (D : DM) (L : LM) (bs : List Int) : AR :=
  if L.over then ⟨5, D, L, bs⟩
  else if 4611686018427387904 ≤ L.serial then ⟨14, D, L, bs⟩
  else if (turnR D L.frm (newH L [] L.note)).1 = 0 then ⟨0, (turnR D L.frm (newH L [] L.note)).2, grownL L [] L.note, []⟩
  else ⟨5, (turnR D L.frm (newH L [] L.note)).2, overL L, bs⟩
def clearS : Sx.Spec where
  fn := 91
  own := [.arg 0, .link 0 0]
  rd := []
  res := [.one (.int .i64)]
  pre := fun xs Hs Rs => ∃ p H HD dp L bs D, xs = [p] ∧ Hs = [H, HD] ∧ LogAt H p dp L bs ∧ DiskAt HD dp D ∧ 0 ≤ L.serial
  post := fun xs Hs Rs v Hs' F => ∃ p H HD dp L bs D H' HD', xs = [p] ∧ Hs = [H, HD] ∧ LogAt H p dp L bs ∧ DiskAt HD dp D ∧ Hs' = [H', HD'] ∧ DiskAt HD' dp (clearR D L bs).D ∧ LogAt H' p dp (clearR D L bs).L (clearR D L bs).bs ∧ v = .int .i64 (clearR D L bs).e
def clearNd : Nd := .and (.imp (.bvar 27) (.post [.blk 0 (ckCVs 1 ([Ck.ptr, Ck.int .i64, Ck.int .i64, Ck.int .u64, Ck.int .u64] ++ List.replicate 16 (Ck.int .u8) ++ [Ck.sl, Ck.bool])) 145, .hp 28 [] [.var 1] [], .hp 29 [] [.var 23] []] (.sv (.one (.int .i64 (.lit 5)))))) (.imp (.not (.bvar 27)) (.and (.imp (.le (.lit 4611686018427387904) (.var 5)) (.post [.blk 0 (ckCVs 1 ([Ck.ptr, Ck.int .i64, Ck.int .i64, Ck.int .u64, Ck.int .u64] ++ List.replicate 16 (Ck.int .u8) ++ [Ck.sl, Ck.bool])) 145, .hp 28 [] [.var 1] [], .hp 29 [] [.var 23] []] (.sv (.one (.int .i64 (.lit 14)))))) (.imp (.not (.le (.lit 4611686018427387904) (.var 5))) (.ext (.alloc 30) (.ext (.alloc 31) (.and (.pre (.call 0 32 [.sv (.one (.hptr (.var 0) (.lit 0))), .sv (.agg ([.int .u64 (.wrap .u64 (.add (.var 5) (.lit 1))), .int .u64 (.lit 0)] ++ ckCVs 7 (List.replicate 16 (Ck.int .u8))))] [.hp 28 [] [.var 1] []] [.blk 0 (ckCVs 1 ([Ck.ptr, Ck.int .i64, Ck.int .i64, Ck.int .u64, Ck.int .u64] ++ List.replicate 16 (Ck.int .u8) ++ [Ck.sl, Ck.bool])) 145])) (.ext (.call 0 32 [.sv (.one (.hptr (.var 0) (.lit 0))), .sv (.agg ([.int .u64 (.wrap .u64 (.add (.var 5) (.lit 1))), .int .u64 (.lit 0)] ++ ckCVs 7 (List.replicate 16 (Ck.int .u8))))] [.hp 28 [] [.var 1] []] [.blk 0 (ckCVs 1 ([Ck.ptr, Ck.int .i64, Ck.int .i64, Ck.int .u64, Ck.int .u64] ++ List.replicate 16 (Ck.int .u8) ++ [Ck.sl, Ck.bool])) 145]) (.and (.imp (.not (.eq (.var 32) (.lit 0))) (.post [.blk 0 (ckCVs 1 ([Ck.ptr, Ck.int .i64, Ck.int .i64, Ck.int .u64, Ck.int .u64] ++ List.replicate 16 (Ck.int .u8) ++ [Ck.sl]) ++ [.bool .tt]) 145, .hp 32 [28] [.var 1] [], .hp 29 [] [.var 23] [], .dead, .dead] (.sv (.one (.int .i64 (.lit 5)))))) (.imp (.eq (.var 32) (.lit 0)) (.post [.blk 0 ([.hptr (.var 1) (.var 2), .int .i64 (.var 3), .int .i64 (.var 4), .int .u64 (.wrap .u64 (.add (.var 5) (.lit 1))), .int .u64 (.lit 0)] ++ ckCVs 7 (List.replicate 16 (Ck.int .u8)) ++ [.sl (.lit (-1)) (.lit 0) (.lit 0) (.lit 0), .bool (.bvar 27)]) 145, .hp 32 [28] [.var 1] [], .hp 29 [] [.var 23] [], .dead, .dead] (.sv (.one (.int .i64 (.lit 0))))))))))))))
def clearΓ : List Sx.Spec := [turnS]
theorem clearΓ_ok : ∀ t ∈ clearΓ, t.OK Tryz.prog := fun t ht => by
  simp only [clearΓ, List.mem_cons, List.mem_nil_iff, or_false] at ht
  subst ht
  exact turnS_ok
def clearW : Walk Tryz.prog clearΓ clearS.fn where
  Λ := noLoops
  args := [TP (.var 0) (.lit 0)]
  mem := [.blk 0 (ckCVs 1 logK ++ [.sl (.var 23) (.var 24) (.var 25) (.var 26), .bool (.bvar 27)]) 145, .hp 28 [] [.var 1] [], .hp 29 [] [.var 23] []]
  nv := 30
  nd := clearNd
  ok := by kernel_rfl
theorem clg0 : clearΓ[0]? = some turnS := rfl
def clrEnv (a : Nat) (da : Nat) (L : LM) (sx : Int) (sn sc : Nat) (HD HB : Hl) : Env :=
  ⟨fun k => if k < 1 then (a : Int) else if k < 23 then (lInts da L).getD (k - 1) 0 else [sx, 0, (sn : Int), (sc : Int)].getD (k - 23) 0, fun _ => L.over, fun _ => .empty, fun _ => .tuple #[], fun k => if k = 28 then HD else HB⟩
theorem clearS_ok : clearS.OK Tryz.prog := by
  refine spec_of_fn2 (Γ := clearΓ) clearΓ_ok ?_
  rintro xs Hs Rs hl1 hl2 hdis ⟨p, H, HD, dp, L, bs, D, rfl, rfl, hAt, hD, hs0⟩
  have e1 : Rs = [] := List.length_eq_zero_iff.1 hl2
  subst e1
  obtain ⟨a, sl, HB, rfl, hok, hO, hone, hH⟩ := id hAt
  obtain ⟨da, s, m, es, clock, hdp, hDi⟩ := id hD
  obtain ⟨sx, sc, hsx, hsl, hsc, _⟩ := OwB.rep hO
  generalize hρ : clrEnv a da L sx bs.length sc HD HB = ρ
  have v0 : ρ.i 0 = a := by rw [← hρ]; rfl
  have w28 : ρ.h 28 = HD := by rw [← hρ]; rfl
  have w29 : ρ.h 29 = HB := by rw [← hρ]; rfl
  have b27 : ρ.b 27 = L.over := by rw [← hρ]; rfl
  have rk : ∀ k, k < 22 → ρ.i (1 + k) = (lInts da L).getD k 0 := fun k hk => by
    rw [← hρ]
    show (if 1 + k < 1 then _ else if 1 + k < 23 then (lInts da L).getD (1 + k - 1) 0 else _) = _
    rw [if_neg (by omega), if_pos (by omega), show 1 + k - 1 = k by omega]
  have lk : ∀ q : Env, Agree 30 ρ q → ∀ k, k < 22 → q.i (1 + k) = (lInts da L).getD k 0 := fun q g k hk => by rw [g.i _ (by omega)]; exact rk k hk
  have ls : ∀ q : Env, Agree 30 ρ q → CV.ev q (.sl (.var 23) (.var 24) (.var 25) (.var 26)) = sl := by
    intro q g
    simp only [CV.ev, iev_var, g.i 23 (by omega), g.i 24 (by omega), g.i 25 (by omega), g.i 26 (by omega)]
    rw [← hρ, hsl]
    show Value.slice (slP sx 0) ((bs.length : Int)).toNat ((sc : Int)).toNat = _
    rw [Int.toNat_natCast, Int.toNat_natCast]
  have eb : ∀ q : Env, Agree 30 ρ q → CV.ev q (.bool (.bvar 27)) = .bool L.over := by
    intro q g
    show Value.bool (q.b 27) = _
    rw [g.b 27 (by omega), b27]
  have eB : ∀ (q : Env), Agree 30 ρ q → (Res.blk 0 (ckCVs 1 logK ++ [.sl (.var 23) (.var 24) (.var 25) (.var 26), .bool (.bvar 27)]) 145).hl q = Hl.one a (lObj dp sl L) := by
    intro q g
    show Hl.one (q.i 0).toNat (.cells ((ckCVs 1 logK ++ [CV.sl (.var 23) (.var 24) (.var 25) (.var 26), .bool (.bvar 27)]).map (CV.ev q)).toArray _ (0, 0)) = _
    rw [List.map_append, logK_ev hok (lk q g), g.i 0 (by omega), v0, List.map_cons, List.map_cons, List.map_nil, ls q g, eb q g, List.append_assoc, ← hdp, Int.toNat_natCast]
    rfl
  have hle1 : (Hl.one a (lObj dp sl L)).le H := by rw [hH]; exact Hl.un_left _ _
  have hle2 : HB.le H := by
    rw [hH]
    show HB.le ((Hl.one a (lObj dp sl L)).un (hls [HB]))
    rw [hls_one]; exact Hl.un_right hone
  have hHD : H.dis HD := hdis 0 1 _ _ (by decide) rfl rfl
  refine ⟨clearW, ρ, fun _ _ => True, fun _ _ => 0, ?_, ⟨?_, ?_, ?_, ?_⟩, (fun _ h => nomatch h), ?_⟩
  · show [Value.pointer (slP (ρ.i 0) 0)] = _
    rw [v0, dArg]
  · intro r hr ho
    simp only [clearW, List.mem_cons, List.mem_nil_iff, or_false] at hr
    rcases hr with rfl | rfl | rfl
    · refine ⟨H, by simp, ?_⟩
      rw [eB ρ (Agree.refl _ _)]; exact hle1
    · refine ⟨HD, by simp, ?_⟩
      show (ρ.h 28).le HD
      rw [w28]; exact Hl.le_refl _
    · refine ⟨H, by simp, ?_⟩
      show (ρ.h 29).le H
      rw [w29]; exact hle2
  · intro r hr ho
    simp only [clearW, List.mem_cons, List.mem_nil_iff, or_false] at hr
    rcases hr with rfl | rfl | rfl <;> cases ho
  · have d1 : HD.dis HB := fun k ⟨h1, h2⟩ => hHD k ⟨Hl.le_mem hle2 h2, h1⟩
    refine List.Pairwise.cons (fun r hr _ ho => ?_) (List.Pairwise.cons (fun r hr _ ho => ?_) (List.Pairwise.cons (fun r hr => by cases hr) List.Pairwise.nil))
    · simp only [List.mem_cons, List.mem_nil_iff, or_false] at hr
      rw [eB ρ (Agree.refl _ _)]
      rcases hr with rfl | rfl
      · show Hl.dis _ (ρ.h 28)
        rw [w28]
        exact fun k ⟨h1, h2⟩ => hHD k ⟨Hl.le_mem hle1 h1, h2⟩
      · show Hl.dis _ (ρ.h 29)
        rw [w29]; exact hone
    · simp only [List.mem_cons, List.mem_nil_iff, or_false] at hr
      subst hr
      show (ρ.h 28).dis (ρ.h 29)
      rw [w28, w29]; exact d1
  · intro r hr
    simp only [clearW, List.mem_cons, List.mem_nil_iff, or_false] at hr
    rcases hr with rfl | rfl | rfl
    · show (0 : Int) ≤ ρ.i 0
      rw [v0]; omega
    · trivial
    · trivial
  · show Nd.holds _ _ _ clearNd
    have eB2 : ∀ q : Env, Agree 30 ρ q → Hl.one a (Obj.cells (List.map (CV.ev q) (ckCVs 1 ([Ck.ptr, Ck.int IntKind.i64, Ck.int IntKind.i64, Ck.int IntKind.u64, Ck.int IntKind.u64] ++ List.replicate 16 (Ck.int IntKind.u8) ++ [Ck.sl, Ck.bool]))).toArray 145 (0, 0)) = Hl.one a (lObj dp sl L) := by
      intro q g
      have h : Hl.one (q.i 0).toNat (Obj.cells (List.map (CV.ev q) (ckCVs 1 ([Ck.ptr, Ck.int IntKind.i64, Ck.int IntKind.i64, Ck.int IntKind.u64, Ck.int IntKind.u64] ++ List.replicate 16 (Ck.int IntKind.u8) ++ [Ck.sl, Ck.bool]))).toArray 145 (0, 0)) = Hl.one a (lObj dp sl L) := eB q g
      rw [g.i 0 (by omega), v0, Int.toNat_natCast] at h
      exact h
    have eT : ∀ q : Env, Agree 30 ρ q → (Res.blk 0 (ckCVs 1 ([Ck.ptr, Ck.int IntKind.i64, Ck.int IntKind.i64, Ck.int IntKind.u64, Ck.int IntKind.u64] ++ List.replicate 16 (Ck.int IntKind.u8) ++ [Ck.sl]) ++ [CV.bool E.tt]) 145).hl q = Hl.one a (lObj dp sl (overL L)) := by
      intro q g
      have h : (Res.blk 0 (ckCVs 1 ([Ck.ptr, Ck.int IntKind.i64, Ck.int IntKind.i64, Ck.int IntKind.u64, Ck.int IntKind.u64] ++ List.replicate 16 (Ck.int IntKind.u8) ++ [Ck.sl]) ++ [CV.bool E.tt]) 145).hl q = Hl.one (q.i 0).toNat (.cells ((ckCVs 1 logK ++ [CV.sl (.var 23) (.var 24) (.var 25) (.var 26), .bool .tt]).map (CV.ev q)).toArray 145 (0, 0)) := rfl
      rw [h, List.map_append, logK_ev hok (lk q g), g.i 0 (by omega), v0, List.map_cons, List.map_cons, List.map_nil, ls q g, List.append_assoc, ← hdp, Int.toNat_natCast]
      rfl
    have hnt : L.note.length = 16 := hok.note
    have eN : ∀ q : Env, Agree 30 ρ q → (ckCVs 7 (List.replicate 16 (Ck.int IntKind.u8))).map (CV.ev q) = bys L.note := fun q g => u8_ev 16 7 L.note hnt fun k hk => by
      have := lk q g (k + 6) (by omega)
      rw [show 7 + k = 1 + (k + 6) by omega, this]
      unfold lInts
      rw [List.getD_eq_getElem?_getD, List.getD_eq_getElem?_getD, List.getElem?_append_right (by simp)]
      simp
    have i23 : ∀ q : Env, Agree 30 ρ q → q.i 1 = da ∧ q.i 2 = 0 ∧ q.i 3 = L.frm ∧ q.i 4 = L.most ∧ q.i 5 = L.serial := fun q g => ⟨lk q g 0 (by omega), lk q g 1 (by omega), lk q g 2 (by omega), lk q g 3 (by omega), lk q g 4 (by omega)⟩
    have hRd : LogRd (Hl.one a (lObj dp sl L)) (.pointer (some ⟨a, 0, none⟩)) dp sl L := ⟨a, rfl, hok, Hl.one_self _ _⟩
    have out : ∀ (q : Env) (t : Mem) (e : Int), Agree 30 ρ q → clearR D L bs = ⟨e, D, L, bs⟩ →
        postOf clearS [.pointer (some ⟨a, 0, none⟩)] [H, HD] [] q (.blk 0 (ckCVs 1 ([Ck.ptr, Ck.int IntKind.i64, Ck.int IntKind.i64, Ck.int IntKind.u64, Ck.int IntKind.u64] ++ List.replicate 16 (Ck.int IntKind.u8) ++ [Ck.sl, Ck.bool])) 145 :: .hp 28 [] [.var 1] [] :: .hp 29 [] [.var 23] [] :: t) (.sv (.one (.int .i64 (.lit e)))) := by
      intro q t e hq hr _
      refine ⟨[[0, 2], [1]], [], rfl, rfl, ⟨⟨fun _ => e, fun _ => false, fun _ => .empty, fun _ => .tuple #[], fun _ => Hl.none⟩, rfl, trivial, trivial⟩, _, H, HD, dp, L, bs, D, _, _, rfl, rfl, hAt, hD, rfl, ?_, ?_, ?_⟩
      · show DiskAt (hls [q.h 28]) _ _
        rw [hls_one, hr, hq.h 28 (by omega), w28]; exact hD
      · rw [hr]
        refine ⟨a, sl, HB, rfl, hok, hO, hone, ?_⟩
        have e29 : q.h 29 = HB := by rw [hq.h 29 (by omega), w29]
        rw [← e29]
        exact congrArg (fun z => hls [z, q.h 29]) (eB q hq)
      · rw [hr]; rfl
    unfold clearNd
    simp only [Nd.holds, X.pre, X.rel, X.n, Src.ok, Src.len, Src.vals, true_and, and_true, if_true, Nat.mul_one, Nat.add_zero, Nat.reduceAdd, List.length_cons, List.length_nil, bT_tt, bT_ff, bT_bvar, bT_not, bT_and, bT_or, bT_ite, bT_lt, bT_le, bT_eq, bT_beq, bT_seq, bT_hB, bT_his, bT_hby, bT_hism, bT_hks, iev_lit, iev_var, iev_add, iev_sub, iev_mul, iev_wrap, iev_ite, iev_hI, iev_hP, iev_hmlen, sev_ite, sev_slit, sev_sof, sev_svar, TV.ev, SV.ev, CV.ev, List.map_cons, List.map_nil, Res.hl, cpTV, Cp.sv, Ck.cv, cpSVs, Cp.len, Ck.len, newHs_zero, newHs_one, roots_ne, clg0, br1]
    rw [b27, rk 4 (by omega)]
    have e4 : (lInts da L).getD 4 0 = L.serial := rfl
    rw [e4]
    refine ⟨fun ho => out ρ _ 5 (Agree.refl _ _) ?_, fun ho => ⟨fun hs => out ρ _ 14 (Agree.refl _ _) ?_, fun hs => ?_⟩⟩
    · unfold clearR; rw [if_pos ho]
    · unfold clearR; rw [if_neg ho, if_pos hs]
    intro q1 g1 _ q2 g2 _
    have G2 : Agree 30 ρ q2 := g1.trans (g2.mono (by omega))
    have wS : IntKind.u64.wrap (L.serial + 1) = L.serial + 1 := wrap_u64 (by omega) (by omega)
    have eH : ∀ q : Env, Agree 30 ρ q → List.map (CV.ev q) ([CV.int IntKind.u64 (E.wrap IntKind.u64 ((E.var 5).add (E.lit 1))), CV.int IntKind.u64 (E.lit 0)] ++ ckCVs 7 (List.replicate 16 (Ck.int IntKind.u8))) = hdV (newH L [] L.note) := by
      intro q g
      rw [List.map_append, eN q g]
      show [Value.int .u64 (IntKind.u64.wrap (q.i 5 + 1)), Value.int .u64 0] ++ bys L.note = _
      rw [(i23 q g).2.2.2.2, wS]; rfl
    rw [G2.i 0 (by omega), v0, dArg, Int.toNat_natCast, eB2 q2 G2, eH q2 G2, G2.h 28 (by omega), w28]
    have hNH : headOK (newH L [] L.note) := ⟨by simp [newH, hnt], ⟨by show 0 ≤ L.serial + 1; omega, by show L.serial + 1 < _; omega⟩, by show (0 : Int) ≤ ((List.length ([] : List Int) : Nat) : Int); simp, by show ((List.length ([] : List Int) : Nat) : Int) < _; simp⟩
    refine ⟨⟨_, _, _, _, dp, sl, L, _, rfl, rfl, rfl, hRd, hD, hNH⟩, fun q4 g4 ⟨F, ⟨p', h', Hx, R1, dp', sl', L', Dy, H3, hx, hH', hR, hLy, hDy, hh', hH3, hD3, hvt⟩, _, _⟩ => ?_⟩
    have hx : Value.pointer (some ⟨a, 0, none⟩) = p' ∧ Value.agg (hdV (newH L [] L.note)).toArray = Value.agg (hdV h').toArray := by simpa using hx
    obtain ⟨rfl, hx2⟩ := hx
    have e := hdV_inj hNH.1 hh'.1 hx2
    subst e
    have hH' : HD = Hx := by simpa using hH'
    subst hH'
    have hR : Hl.one a (lObj dp sl L) = R1 := by simpa using hR
    subst hR
    obtain ⟨rfl, rfl, rfl⟩ := hRd.uniq hLy
    have e := hDy.uniq hD
    subst e
    have hH3 : q4.h 32 = H3 := by simpa using hH3
    rw [← hH3] at hD3
    have hvt : q4.i 32 = (turnR Dy L.frm (newH L [] L.note)).1 := by simpa using hvt
    have G4 : Agree 30 ρ q4 := G2.trans (g4.mono (by omega))
    have e29 : q4.h 29 = HB := by rw [G4.h 29 (by omega), w29]
    refine ⟨fun h32 hd => ?_, fun h32 hd => ?_⟩
    · have hr : clearR Dy L bs = ⟨5, (turnR Dy L.frm (newH L [] L.note)).2, overL L, bs⟩ := by
        unfold clearR
        rw [if_neg ho, if_neg hs, if_neg (by rw [← hvt]; exact h32)]
      have hd02 := hd 0 2 _ _ (by decide) rfl rfl rfl
      rw [eT q4 G4] at hd02
      have hd02 : (Hl.one a (lObj dp sl (overL L))).dis (q4.h 29) := hd02
      rw [e29] at hd02
      refine ⟨[[0, 2], [1]], [], rfl, rfl, ⟨⟨fun _ => 5, fun _ => false, fun _ => .empty, fun _ => .tuple #[], fun _ => Hl.none⟩, rfl, trivial, trivial⟩, _, H, HD, dp, L, bs, Dy, _, _, rfl, rfl, hAt, hD, rfl, ?_, ?_, ?_⟩
      · show DiskAt (hls [q4.h 32]) _ _
        rw [hls_one, hr]; exact hD3
      · rw [hr]
        refine ⟨a, sl, HB, rfl, ⟨hok.frm, hok.most, hok.note⟩, hO, hd02, ?_⟩
        rw [← e29]
        exact congrArg (fun z => hls [z, q4.h 29]) (eT q4 G4)
      · rw [hr]; rfl
    · have hr : clearR Dy L bs = ⟨0, (turnR Dy L.frm (newH L [] L.note)).2, grownL L [] L.note, []⟩ := by
        unfold clearR
        rw [if_neg ho, if_neg hs, if_pos (by rw [← hvt]; exact h32)]
      have eG : (Res.blk 0 ([CV.hptr (E.var 1) (E.var 2), CV.int IntKind.i64 (E.var 3), CV.int IntKind.i64 (E.var 4), CV.int IntKind.u64 (E.wrap IntKind.u64 ((E.var 5).add (E.lit 1))), CV.int IntKind.u64 (E.lit 0)] ++ ckCVs 7 (List.replicate 16 (Ck.int IntKind.u8)) ++ [CV.sl (E.lit (-1)) (E.lit 0) (E.lit 0) (E.lit 0), CV.bool (E.bvar 27)]) 145).hl q4 = Hl.one a (lObj dp (.slice none 0 0) (grownL L [] L.note)) := by
        show Hl.one (q4.i 0).toNat (.cells (List.map (CV.ev q4) _).toArray _ (0, 0)) = _
        rw [List.map_append, List.map_append, eN q4 G4]
        obtain ⟨j0, j1, j2, j3, j4⟩ := i23 q4 G4
        have eb' : q4.b 27 = L.over := by rw [G4.b 27 (by omega), b27]
        show Hl.one (q4.i 0).toNat (.cells ([Value.pointer (slP (q4.i 1) (q4.i 2)), .int .i64 (q4.i 3), .int .i64 (q4.i 4), .int .u64 (IntKind.u64.wrap (q4.i 5 + 1)), .int .u64 0] ++ bys L.note ++ [Value.slice (slP (-1) 0) 0 0, .bool (q4.b 27)]).toArray _ (0, 0)) = _
        rw [j0, j1, j2, j3, j4, eb', G4.i 0 (by omega), v0, wS, dArg, ← hdp, Int.toNat_natCast, slP_nil, List.append_assoc]
        rfl
      refine ⟨[[0], [1]], [], rfl, rfl, ⟨⟨fun _ => 0, fun _ => false, fun _ => .empty, fun _ => .tuple #[], fun _ => Hl.none⟩, rfl, trivial, trivial⟩, _, H, HD, dp, L, bs, Dy, _, _, rfl, rfl, hAt, hD, rfl, ?_, ?_, ?_⟩
      · show DiskAt (hls [q4.h 32]) _ _
        rw [hls_one, hr]; exact hD3
      · rw [hr]
        refine ⟨a, .slice none 0 0, Hl.none, rfl, ⟨hok.frm, hok.most, hnt⟩, ⟨rfl, Or.inl ⟨rfl, rfl⟩⟩, fun k ⟨_, h⟩ => by simp [Hl.mem, Hl.none] at h, ?_⟩
        exact (congrArg (fun z => hls [z]) eG).trans (by simp [hls, Hl.un_none])
      · rw [hr]; rfl
theorem clear_post {p dp v : Value} {bs : List Int} {H HD F : Hl} {K Rs : List Hl} {L : LM} {D : DM} (h1 : LogAt H p dp L bs) (h2 : DiskAt HD dp D) (hp : clearS.post [p] [H, HD] Rs v K F) :
    ∃ H' HD', K = [H', HD'] ∧ DiskAt HD' dp (clearR D L bs).D ∧ LogAt H' p dp (clearR D L bs).L (clearR D L bs).bs ∧ v = .int .i64 (clearR D L bs).e := by
  obtain ⟨p', Hx, HDx, dp', L', bs', D', H', HD', hx, hH, hLx, hDx, hK, hDy, hLy, hv⟩ := hp
  have hx : p = p' := by simpa using hx
  subst hx
  have hH : H = Hx ∧ HD = HDx := by simpa using hH
  obtain ⟨e1, e2⟩ := hH
  subst e1 e2
  obtain ⟨e1, e2, e3⟩ := hLx.uniq h1
  subst e1 e2 e3
  have e := hDx.uniq h2
  subst e
  exact ⟨H', HD', hK, hDy, hLy, hv⟩
theorem sync_loose {D : DM} (e : (syncR D).1 = 0) : (syncR D).2.loose = [] := by
  unfold syncR at e ⊢
  split at e
  · cases e
  · split at e
    · cases e
    · rename_i h1 h2; rw [if_neg h1, if_neg h2]
theorem turn_loose {D : DM} {frm : Int} {h : List Int} (e : (turnR D frm h).1 = 0) : (turnR D frm h).2.loose = [] := by
  unfold turnR at e ⊢
  split at e
  · rename_i h1; exact absurd e h1
  · rename_i h1; rw [if_neg h1]; exact sync_loose e
theorem become_loose {D : DM} {L : LM} {all nt : List Int} {n : Nat} (e : (becomeR D L all nt n).1 = 0) : (becomeR D L all nt n).2.loose = [] := by
  unfold becomeR at e ⊢
  split at e
  · cases e
  · rename_i h1
    rw [if_neg h1]
    split at e
    · cases e
    · rename_i h2
      rw [if_neg h2]
      exact turn_loose (by simpa using h2)
theorem append_loose {D : DM} {L : LM} {bs b nt : List Int} (e : (appendR D L bs b nt).e = 0) : (appendR D L bs b nt).D.loose = [] := by
  unfold appendR at e ⊢
  split at e
  · cases e
  · rename_i h1
    rw [if_neg h1]
    split at e
    · cases e
    · rename_i h2
      rw [if_neg h2]
      split at e
      · cases e
      · rename_i h3
        rw [if_neg h3]
        split at e
        · rename_i h4
          rw [if_pos h4]; exact become_loose h4
        · cases e
theorem Holds.clear {D : DM} {frm : Nat} {n : Int} {k : Nat} {all nt : List Int} (h : Holds D frm n k all nt) (hk : k < 1000000) :
    (clearR D ⟨frm, 64 * (n - 2), k, all.length, nt, false⟩ all).e = 0 ∧ Holds (clearR D ⟨frm, 64 * (n - 2), k, all.length, nt, false⟩ all).D frm n (k + 1) [] nt ∧
    (clearR D ⟨frm, 64 * (n - 2), k, all.length, nt, false⟩ all).bs = [] ∧ (clearR D ⟨frm, 64 * (n - 2), k, all.length, nt, false⟩ all).L = ⟨frm, 64 * (n - 2), (k + 1 : Nat), 0, nt, false⟩ ∧
    (clearR D ⟨frm, 64 * (n - 2), k, all.length, nt, false⟩ all).D.n = D.n ∧ ∀ j : Nat, ((j : Int) < 64 * frm ∨ 64 * (frm + n) ≤ (j : Int)) → (clearR D ⟨frm, 64 * (n - 2), k, all.length, nt, false⟩ all).D.now[j]? = D.now[j]? := by
  obtain ⟨r1, r2⟩ := h.rng
  have hDn := h.sure.ok.n
  have hnt := h.note
  obtain ⟨L, hL⟩ : ∃ L : LM, L = ⟨frm, 64 * (n - 2), k, all.length, nt, false⟩ := ⟨_, rfl⟩
  rw [← hL]
  have f1 : L.frm = frm := by rw [hL]
  have f2 : L.most = 64 * (n - 2) := by rw [hL]
  have f3 : L.serial = k := by rw [hL]
  have f4 : L.over = false := by rw [hL]
  have f5 : L.note = nt := by rw [hL]
  obtain ⟨N, hN⟩ : ∃ N, N = newH L [] L.note := ⟨_, rfl⟩
  have eN : N = ((k + 1 : Nat) : Int) :: (0 : Int) :: nt := by
    rw [hN]; unfold newH; rw [f3, f5]; rfl
  have hp : ((k + 1 : Nat) : Int).tmod 2 = (((k + 1) % 2 : Nat) : Int) := by
    rw [Int.tmod_eq_emod_of_nonneg (by omega)]; omega
  obtain ⟨p, hpp⟩ : ∃ p, p = (k + 1) % 2 := ⟨_, rfl⟩
  have hp2 : p < 2 := by omega
  obtain ⟨b1, b2, b3, b4⟩ := half_head (a := ((k + 1 : Nat) : Int)) (b := 0) (nt := nt) ⟨by omega, by omega⟩ ⟨by omega, by omega⟩ hnt
  rw [← eN] at b1 b2 b3 b4
  have hhl : (halfL N ++ halfL N).length = 64 := by rw [List.length_append, b1]
  have ei : ∀ q : Nat, (frm : Int) + ((q : Nat) : Int) = ((frm + q : Nat) : Int) := fun q => by omega
  have hasD : ∀ q : Nat, q < 2 → D.has ((frm : Int) + (q : Int)) = true := fun q hq => by unfold DM.has; simp only [decide_eq_true_eq]; omega
  have hw := writeR_sure h.sure (hasD p hp2) hhl
  obtain ⟨G, hG⟩ : ∃ G, G = putD D ((frm : Int) + (p : Int)) (halfL N ++ halfL N) := ⟨_, rfl⟩
  rw [← hG] at hw
  have hGs : Sure G := by rw [hG]; exact putD_sure h.sure (hasD p hp2) hhl
  have hGn : G.n = D.n := by rw [hG]; rfl
  have hGg := putD_get h.sure.ok (hasD p hp2) hhl
  rw [← hG, ei p, Int.toNat_natCast] at hGg
  obtain ⟨s1, s2, s3, s4⟩ := syncR_sure hGs
  have htn : turnR D L.frm N = syncR G := by
    unfold turnR
    have e0 : N.getD 0 0 = ((k + 1 : Nat) : Int) := by rw [eN]; rfl
    rw [f1, e0, hp, ← hpp, hw]; simp
  have hcl : clearR D L all = ⟨0, (syncR G).2, grownL L [] L.note, []⟩ := by
    unfold clearR
    rw [f4, f3, if_neg (by simp), if_neg (by omega), ← hN, htn, if_pos s1]
  rw [hcl]
  refine ⟨rfl, ⟨s2, ⟨r1, by show (frm : Int) + n ≤ ((syncR G).2.n : Int); rw [s4, hGn]; exact r2⟩, by show (0 : Int) ≤ _; omega, hnt, ?_, Or.inl ?_, fun t z ht => by cases ht⟩, rfl, by unfold grownL; rw [f1, f2, f3, f4, f5]; rfl, s4.trans hGn, fun j hj => ?_⟩
  · rw [← hpp]
    have hi : (syncR G).2.has ((frm : Int) + (p : Int)) = true := by unfold DM.has; rw [s4, hGn]; exact hasD p hp2
    have hsec : (syncR G).2.sector ((frm : Int) + (p : Int)) = halfL N ++ halfL N := by
      unfold DM.sector
      rw [s3, ei p, Int.toNat_natCast]
      apply List.ext_getElem?
      intro j
      rw [List.getElem?_take]
      split
      · rename_i hj
        rw [List.getElem?_drop, hGg, if_pos (by omega)]
        congr 1; omega
      · rw [List.getElem?_eq_none (by omega)]
    show lreadR (syncR G).2 frm (64 * (n - 2)) (p : Int) = _
    rw [lread_sector s2 hi, hsec]
    have ht : (halfL N ++ halfL N).take 32 = halfL N := by rw [List.take_left' b1]
    have hdr : (halfL N ++ halfL N).drop 32 = halfL N := by rw [List.drop_left' b1]
    rw [if_pos, ht, b2, eN]
    · rfl
    unfold goodH
    rw [ht, hdr, b3, b4]
    exact ⟨rfl, by rw [hp, hpp], by omega⟩
  · have hq : (k + 1 + 1) % 2 = k % 2 := by omega
    rw [hq]
    obtain ⟨c, hc⟩ : ∃ c, c = k % 2 := ⟨_, rfl⟩
    have hcur := h.cur
    rw [← hc] at hcur ⊢
    have hc2 : c < 2 := by omega
    have hcp : c ≠ p := by omega
    have hsec : (syncR G).2.sector ((frm : Int) + (c : Int)) = D.sector ((frm : Int) + (c : Int)) := by
      refine sector_same fun j h1 h2 => ?_
      rw [ei c, Int.toNat_natCast] at h1 h2
      rw [s3, hGg, if_neg (by omega)]
    rw [lread_same h.sure s2 (by rw [s4, hGn]) (hasD c hc2) hsec, hcur]
    show (k : Int) < ((k + 1 : Nat) : Int)
    omega
  · show (syncR G).2.now[j]? = _
    rw [s3, hGg, if_neg (by omega)]
end Go.Proofs.YtomdimlnggpgbaaGreatDoor.D
namespace Go.Proofs.YtomdimlnggpgbaaGreatDoor
open Go Go.RowKit Go.Extern.Stop Go.Stop Go.Extern
theorem isTypeOf (v : Value) (w : World) : (Extern.ReflectliteType.typeOf #[.iface 299 v]).run Tryz.prog w = .ok (.iface 243 (.agg #[.pointer (some ⟨7, 299, none⟩)])) w := by kernel_rfl
def cmpExt : Array Value → Sem Value := Extern.ReflectliteType.method fun t => do Extern.Rtype.noPackHeld "Comparable" t; pure (.bool (← typeInfo t).comparable)
theorem isComparable (w : World) : (cmpExt #[.agg #[.pointer (some ⟨7, 299, none⟩)]]).run Tryz.prog w = .ok (.bool true) w := by kernel_rfl
theorem isMethodComparable (v : Value) (w : World) : (Go.method 431 243 v "Comparable").run Tryz.prog w = .ok (238, v) w := by kernel_rfl
theorem methodUnwrap (v : Value) (w : World) : (Go.method 431 156 v "Unwrap").run Tryz.prog w = .ok (229, v) w := by kernel_rfl
theorem isComp : (Tryz.prog.info? 299).map (·.comparable) = some true := by kernel_rfl
theorem isSize : (Tryz.prog.info? 319).map (·.size) = some 1 := by kernel_rfl
theorem noIsE (v : Value) (xT : TypeId) (w : World) : (Instr.typeAssert (.iface 299 v) xT 245 true).run Tryz.prog w = .ok (.tuple #[.nilIface, .bool false]) w := run_typeAssert_lacksB Tryz.underlying245 (by kernel_rfl) (by kernel_rfl) v xT w
theorem noUnwrapE (v : Value) (xT : TypeId) (w : World) : (Instr.typeAssert (.iface 299 v) xT 248 true).run Tryz.prog w = .ok (.tuple #[.nilIface, .bool false]) w := run_typeAssert_lacksB Tryz.underlying248 (by kernel_rfl) (by kernel_rfl) v xT w
theorem noUnwrapsE (v : Value) (xT : TypeId) (w : World) : (Instr.typeAssert (.iface 299 v) xT 250 true).run Tryz.prog w = .ok (.tuple #[.nilIface, .bool false]) w := run_typeAssert_lacksB Tryz.underlying250 (by kernel_rfl) (by kernel_rfl) v xT w
theorem noIsW (v : Value) (xT : TypeId) (w : World) : (Instr.typeAssert (.iface 156 v) xT 245 true).run Tryz.prog w = .ok (.tuple #[.nilIface, .bool false]) w := run_typeAssert_lacksB Tryz.underlying245 (by kernel_rfl) (by kernel_rfl) v xT w
theorem hasUnwrapW (v : Value) (xT : TypeId) (w : World) : (Instr.typeAssert (.iface 156 v) xT 248 true).run Tryz.prog w = .ok (.tuple #[.iface 156 v, .bool true]) w := run_typeAssert_hasB Tryz.underlying248 (by kernel_rfl) v xT w
theorem is_nil (b : Addr) (w : World) :
    Calls Tryz.prog 87 #[.nilIface, .iface 299 (.pointer (some b))] w fun e w' => e = .returned (.bool false) ∧ w' = w := by
  have hn := run_eql_iface_nil_left (P := Tryz.prog) w 299 (.pointer (some b)) Tryz.underlying107
  go_enter Tryz.func87, Tryz.ntmps87
  go_wp2
  go_ret
  exact ⟨rfl, rfl⟩
set_option maxRecDepth 20000 in
theorem is_wrap_same (s : ByteArray) (b : Addr) (w : World) :
    Calls Tryz.prog 87 #[.iface 156 (.agg #[.string s, .iface 299 (.pointer (some b))]), .iface 299 (.pointer (some b))] w fun e w' => e = .returned (.bool true) ∧ Below w.heap.size w w' := by
  obtain ⟨i, hi, hcmp⟩ := Option.map_eq_some_iff.1 isComp
  obtain ⟨j, hj, hjs⟩ := Option.map_eq_some_iff.1 isSize
  have h8 := @run_callFunc_extern Tryz.prog 129 _ Extern.ReflectliteType.typeOf Tryz.func129 (by kernel_rfl) (by kernel_rfl) (by kernel_rfl) (by kernel_rfl)
  have h32 := @run_callFunc_extern Tryz.prog 238 _ cmpExt Tryz.func238 (by kernel_rfl) (by kernel_rfl) (by kernel_rfl) (by kernel_rfl)
  have tT := isTypeOf
  have cT := isComparable
  have mR := isMethodComparable
  have mU := methodUnwrap
  have nE := noIsE
  have uE := noUnwrapE
  have vE := noUnwrapsE
  have nW := noIsW
  have uW := hasUnwrapW
  have heq := fun w => run_eql_iface_ptr_same (P := Tryz.prog) w b Tryz.underlying107 Tryz.underlying299 hi hcmp hj
  have hty := run_eql_iface_types (P := Tryz.prog) 156 299 (.agg #[.string s, .iface 299 (.pointer (some b))]) (.pointer (some b)) Tryz.underlying107 (by decide) w
  go_enter Tryz.func87, Tryz.ntmps87
  go_wp2
  refine wp_loop_rounds 2 ?_
  rw [rounds_succ]
  go_wp2
  rw [rounds_succ]
  go_wp2
  go_ret
  exact ⟨rfl, (Below.refl _ _).alloc (Nat.le_refl _) _⟩
set_option maxRecDepth 20000 in
theorem is_wrap_other (s : ByteArray) (b a : Addr) (ca cb : Array Value) (ta tb : TypeId) (w : World) (hne : a ≠ b) (ha : w.heap[a.block]? = some (.cells ca ta (0, 0))) (hb : w.heap[b.block]? = some (.cells cb tb (0, 0))) :
    Calls Tryz.prog 87 #[.iface 156 (.agg #[.string s, .iface 299 (.pointer (some a))]), .iface 299 (.pointer (some b))] w fun e w' => e = .returned (.bool false) ∧ Below w.heap.size w w' := by
  obtain ⟨i, hi, hcmp⟩ := Option.map_eq_some_iff.1 isComp
  obtain ⟨j, hj, hjs⟩ := Option.map_eq_some_iff.1 isSize
  have h8 := @run_callFunc_extern Tryz.prog 129 _ Extern.ReflectliteType.typeOf Tryz.func129 (by kernel_rfl) (by kernel_rfl) (by kernel_rfl) (by kernel_rfl)
  have h32 := @run_callFunc_extern Tryz.prog 238 _ cmpExt Tryz.func238 (by kernel_rfl) (by kernel_rfl) (by kernel_rfl) (by kernel_rfl)
  have tT := isTypeOf
  have cT := isComparable
  have mR := isMethodComparable
  have mU := methodUnwrap
  have nE := noIsE
  have uE := noUnwrapE
  have vE := noUnwrapsE
  have nW := noIsW
  have uW := hasUnwrapW
  have ha' : (w.alloc (.cells #[.string s, .iface 299 (.pointer (some a))] 156)).heap[a.block]? = some (.cells ca ta (0, 0)) := (Below.heap_alloc _ _ _ (Array.getElem?_eq_some_iff.1 ha).1).trans ha
  have hb' : (w.alloc (.cells #[.string s, .iface 299 (.pointer (some a))] 156)).heap[b.block]? = some (.cells cb tb (0, 0)) := (Below.heap_alloc _ _ _ (Array.getElem?_eq_some_iff.1 hb).1).trans hb
  have heq := run_eql_iface_ptr_other (P := Tryz.prog) _ Tryz.underlying107 Tryz.underlying299 hi hcmp hj (by rw [hjs]; decide) hne ha' hb'
  have hty := run_eql_iface_types (P := Tryz.prog) 156 299 (.agg #[.string s, .iface 299 (.pointer (some a))]) (.pointer (some b)) Tryz.underlying107 (by decide) w
  go_enter Tryz.func87, Tryz.ntmps87
  go_wp2
  refine wp_loop_rounds 2 ?_
  rw [rounds_succ]
  go_wp2
  rw [rounds_succ]
  go_wp2
  go_ret
  exact ⟨rfl, (Below.refl _ _).alloc (Nat.le_refl _) _⟩
end Go.Proofs.YtomdimlnggpgbaaGreatDoor
namespace Go.Pk
open Go Go.Sx
def numB (x : Nat) : List Int := if x < 128 then [(x : Int)] else ((x % 128 + 128 : Nat) : Int) :: numB (x / 128)
def numGo : List Int → Nat → Nat → Option (Nat × Nat)
  | [], _, _ => none
  | c :: l, n, x => if (n = 9 ∧ 1 < c) ∨ 9 < n then none else if c < 128 then (if c = 0 ∧ 0 < n then none else some (x + c.toNat * 128 ^ n, n + 1)) else numGo l (n + 1) (x + (c.toNat % 128) * 128 ^ n)
def numAt (l : List Int) : Option (Nat × Nat) := numGo l 0 0
theorem numB_low {x : Nat} (h : x < 128) : numB x = [(x : Int)] := by rw [numB, if_pos h]
theorem numB_high {x : Nat} (h : ¬ x < 128) : numB x = ((x % 128 + 128 : Nat) : Int) :: numB (x / 128) := by rw [numB, if_neg h]
theorem numB_byte : ∀ (x : Nat), ∀ b ∈ numB x, 0 ≤ b ∧ b < 256 := by
  intro x
  induction x using Nat.strongRecOn with
  | _ x ih =>
    intro b hb
    by_cases h : x < 128
    · rw [numB_low h, List.mem_singleton] at hb
      omega
    · rw [numB_high h] at hb
      rcases List.mem_cons.1 hb with rfl | hb
      · omega
      · exact ih (x / 128) (by omega) b hb
theorem numB_pos (x : Nat) : 0 < (numB x).length := by
  by_cases h : x < 128
  · rw [numB_low h]; exact Nat.one_pos
  · rw [numB_high h]; exact Nat.succ_pos _
theorem numB_len : ∀ (k x : Nat), x < 128 ^ (k + 1) → (numB x).length ≤ k + 1
  | 0, x, h => by rw [numB_low (by simpa using h)]; exact Nat.le_refl _
  | k + 1, x, h => by
    by_cases h1 : x < 128
    · rw [numB_low h1]; simp
    · rw [numB_high h1, List.length_cons]
      have := numB_len k (x / 128) (by
        rw [Nat.pow_succ] at h
        exact Nat.div_lt_of_lt_mul (by omega))
      omega
theorem pow63 : (128 : Nat) ^ 9 = 9223372036854775808 := by decide
theorem numGo_enc (t : List Int) : ∀ (x n y : Nat), (0 < n → 0 < x) → n ≤ 9 → x * 128 ^ n < 18446744073709551616 → numGo (numB x ++ t) n y = some (y + x * 128 ^ n, n + (numB x).length) := by
  intro x
  induction x using Nat.strongRecOn with
  | _ x ih =>
    intro n y hx hn hlt
    have h9 : n = 9 → x ≤ 1 := fun e => by
      subst e
      rw [pow63] at hlt; omega
    by_cases h : x < 128
    · rw [numB_low h]
      show (if (n = 9 ∧ 1 < (x : Int)) ∨ 9 < n then none else _) = _
      rw [if_neg (by omega), if_pos (by omega), if_neg (by omega), Int.toNat_natCast]
      rfl
    · rw [numB_high h]
      have hc : (((x % 128 + 128 : Nat) : Int)).toNat % 128 = x % 128 := by rw [Int.toNat_natCast]; omega
      show (if (n = 9 ∧ 1 < ((x % 128 + 128 : Nat) : Int)) ∨ 9 < n then none else _) = _
      have hn9 : n ≠ 9 := fun e => by have := h9 e; omega
      rw [if_neg (by omega), if_neg (by omega), hc]
      have hmul : x / 128 * 128 ^ (n + 1) + x % 128 * 128 ^ n = x * 128 ^ n := by
        rw [Nat.pow_succ, ← Nat.mul_assoc, Nat.mul_right_comm, ← Nat.add_mul]
        congr 1
        omega
      show numGo (numB (x / 128) ++ t) (n + 1) (y + x % 128 * 128 ^ n) = _
      rw [ih (x / 128) (by omega) (n + 1) _ (fun _ => by omega) (by omega) (by omega), List.length_cons]
      congr 1
      rw [Prod.mk.injEq]
      omega
theorem numAt_enc {x : Nat} (h : x < 18446744073709551616) (t : List Int) : numAt (numB x ++ t) = some (x, (numB x).length) := by
  have := numGo_enc t x 0 0 (fun h => absurd h (by omega)) (by omega) (by simpa using h)
  unfold numAt
  rw [this]
  simp
theorem numGo_dec : ∀ (l : List Int) (n y z m : Nat), (∀ b ∈ l, 0 ≤ b ∧ b < 256) → numGo l n y = some (z, m) → ∃ x, z = y + x * 128 ^ n ∧ n < m ∧ m - n ≤ l.length ∧ l.take (m - n) = numB x ∧ (0 < n → 0 < x) ∧ x * 128 ^ n < 18446744073709551616
  | [], _, _, _, _, _, h => by cases h
  | c :: l, n, y, z, m, hb, h => by
    have hc := hb c (List.mem_cons_self ..)
    have hl : ∀ b ∈ l, 0 ≤ b ∧ b < 256 := fun b h => hb b (List.mem_cons_of_mem _ h)
    have h : (if (n = 9 ∧ 1 < c) ∨ 9 < n then none else if c < 128 then (if c = 0 ∧ 0 < n then none else some (y + c.toNat * 128 ^ n, n + 1)) else numGo l (n + 1) (y + (c.toNat % 128) * 128 ^ n)) = some (z, m) := h
    split at h
    · cases h
    · rename_i h9
      have hpow : 128 ^ n ≤ 9223372036854775808 := by
        rw [← pow63]
        exact Nat.pow_le_pow_right (by decide) (by omega)
      have hsmall : n < 9 → 128 ^ n ≤ 72057594037927936 := fun hn => by
        have : (128 : Nat) ^ 8 = 72057594037927936 := by decide
        rw [← this]
        exact Nat.pow_le_pow_right (by decide) (by omega)
      split at h
      · rename_i h128
        split at h
        · cases h
        · rename_i h0
          simp only [Option.some.injEq, Prod.mk.injEq] at h
          obtain ⟨h1, h2⟩ := h
          subst h1 h2
          refine ⟨c.toNat, rfl, by omega, by rw [List.length_cons]; omega, ?_, by omega, ?_⟩
          · rw [show n + 1 - n = 1 by omega, numB_low (by omega)]
            show [c] = _
            rw [Int.toNat_of_nonneg hc.1]
          · rcases Nat.lt_or_ge n 9 with hn | hn
            · have := hsmall hn
              calc c.toNat * 128 ^ n ≤ 127 * 72057594037927936 := Nat.mul_le_mul (by omega) this
                _ < _ := by decide
            · have : c.toNat ≤ 1 := by omega
              calc c.toNat * 128 ^ n ≤ 1 * 9223372036854775808 := Nat.mul_le_mul this hpow
                _ < _ := by decide
      · rename_i h128
        obtain ⟨x, e1, e2, e3, e4, e5, e6⟩ := numGo_dec l (n + 1) _ z m hl h
        have hx := e5 (by omega)
        have hdiv : (x * 128 + c.toNat % 128) / 128 = x := by omega
        have hmod : (x * 128 + c.toNat % 128) % 128 = c.toNat % 128 := by omega
        have hmul : (x * 128 + c.toNat % 128) * 128 ^ n = x * 128 ^ (n + 1) + (c.toNat % 128) * 128 ^ n := by
          rw [Nat.add_mul, Nat.pow_succ, Nat.mul_assoc x 128, Nat.mul_comm 128]
        refine ⟨x * 128 + c.toNat % 128, by rw [e1, hmul]; omega, by omega, by rw [List.length_cons]; omega, ?_, fun _ => by omega, ?_⟩
        · rw [show m - n = (m - (n + 1)) + 1 by omega, List.take_succ_cons, e4, numB_high (x := x * 128 + c.toNat % 128) (by omega), hdiv, hmod]
          congr 1
          omega
        · rw [hmul]
          have h127 : c.toNat % 128 * 128 ^ n < 128 ^ (n + 1) := by
            rw [Nat.pow_succ, Nat.mul_comm (128 ^ n)]
            exact Nat.mul_lt_mul_of_pos_right (by omega) (Nat.pow_pos (by decide))
          have hn9 : n < 9 := by omega
          have hdvd : ∃ q, 18446744073709551616 = q * 128 ^ (n + 1) := by
            refine ⟨2 ^ (64 - 7 * (n + 1)), ?_⟩
            have : (18446744073709551616 : Nat) = 2 ^ 64 := by decide
            rw [this, show (128 : Nat) = 2 ^ 7 by decide, ← Nat.pow_mul, ← Nat.pow_add]
            congr 1; omega
          obtain ⟨q, hq⟩ := hdvd
          rw [hq] at e6 ⊢
          have hxq : x < q := Nat.lt_of_mul_lt_mul_right e6
          calc x * 128 ^ (n + 1) + c.toNat % 128 * 128 ^ n < x * 128 ^ (n + 1) + 128 ^ (n + 1) := by omega
            _ = (x + 1) * 128 ^ (n + 1) := by rw [Nat.succ_mul]
            _ ≤ q * 128 ^ (n + 1) := Nat.mul_le_mul_right _ hxq
theorem numAt_dec {l : List Int} {x m : Nat} (hb : ∀ b ∈ l, 0 ≤ b ∧ b < 256) (h : numAt l = some (x, m)) : 0 < m ∧ m ≤ l.length ∧ l.take m = numB x ∧ x < 18446744073709551616 := by
  obtain ⟨z, e1, e2, e3, e4, _, e6⟩ := numGo_dec l 0 0 x m hb h
  have ez : x = z := by simpa using e1
  subst ez
  exact ⟨e2, by simpa using e3, by simpa using e4, by simpa using e6⟩
end Go.Pk
namespace Go.Pk
open Go Go.Sx
theorem wu64 {x : Int} (h0 : 0 ≤ x) (h1 : x < 18446744073709551616) : IntKind.u64.wrap x = x := by
  show Int.emod x 18446744073709551616 = x
  exact Int.emod_eq_of_lt h0 h1
theorem wu8 (x : Int) : IntKind.u8.wrap x = x % 256 := rfl
theorem bv_nat {w : Nat} {x : Nat} (h : x < 2 ^ w) : (BitVec.ofInt w (x : Int)).toNat = x := by
  rw [BitVec.toNat_ofInt, Int.emod_eq_of_lt (by omega) (by exact_mod_cast h), Int.toNat_natCast]
theorem bits_and {c : Nat} (h : c < 256) : bitsI .and .u8 (c : Int) 127 = ((c % 128 : Nat) : Int) := by
  show IntKind.u8.wrap (((BitVec.ofInt 8 (c : Int) &&& BitVec.ofInt 8 127).toNat : Nat) : Int) = _
  rw [BitVec.toNat_and, bv_nat (by simpa using h), show (BitVec.ofInt 8 127).toNat = 2 ^ 7 - 1 from rfl, Nat.and_two_pow_sub_one_eq_mod, wu8]
  have : c % 2 ^ 7 = c % 128 := rfl
  omega
theorem bits_or {x y : Nat} (hx : x < 18446744073709551616) (hy : y < 18446744073709551616) : bitsI .or .u64 (x : Int) (y : Int) = ((x ||| y : Nat) : Int) := by
  show IntKind.u64.wrap (((BitVec.ofInt 64 (x : Int) ||| BitVec.ofInt 64 (y : Int)).toNat : Nat) : Int) = _
  have hx' : x < 2 ^ 64 := hx
  have hy' : y < 2 ^ 64 := hy
  rw [BitVec.toNat_or, bv_nat hx', bv_nat hy']
  have := Nat.or_lt_two_pow hx' hy'
  exact wu64 (by omega) (by have e : (2 : Nat) ^ 64 = 18446744073709551616 := by decide
                            omega)
theorem or_shift {y a k : Nat} (hy : y < 2 ^ k) : y ||| (a * 2 ^ k) = y + a * 2 ^ k := by
  rw [Nat.or_comm, ← Nat.shiftLeft_eq, ← Nat.shiftLeft_add_eq_or_of_lt hy, Nat.add_comm]
theorem pow7 (k : Nat) : (2 : Nat) ^ (7 * k) = 128 ^ k := by rw [Nat.pow_mul]
theorem next7 {y k c : Nat} (hy : y < 128 ^ k) (hk : k ≤ 9) (hc : c < 256) (h9 : k = 9 → c ≤ 1) :
    bitsI .or .u64 (y : Int) (IntKind.u64.wrap (IntKind.u64.wrap (bitsI .and .u8 (c : Int) 127) * 2 ^ (min (IntKind.i64.wrap (7 * (k : Int))).toNat 64))) = ((y + c % 128 * 128 ^ k : Nat) : Int) ∧ y + c % 128 * 128 ^ k < 18446744073709551616 := by
  have hpow : 128 ^ k ≤ 9223372036854775808 := by
    rw [← pow63]
    exact Nat.pow_le_pow_right (by decide) hk
  have hz : c % 128 * 128 ^ k ≤ 9223372036854775808 := by
    rcases Nat.lt_or_ge k 9 with h | h
    · have h8 : 128 ^ k ≤ 72057594037927936 := by
        have : (128 : Nat) ^ 8 = 72057594037927936 := by decide
        rw [← this]
        exact Nat.pow_le_pow_right (by decide) (by omega)
      calc c % 128 * 128 ^ k ≤ 127 * 72057594037927936 := Nat.mul_le_mul (by omega) h8
        _ ≤ _ := by decide
    · have : c % 128 ≤ 1 := by have := h9 (by omega); omega
      calc c % 128 * 128 ^ k ≤ 1 * 9223372036854775808 := Nat.mul_le_mul this hpow
        _ ≤ _ := by decide
  have e1 : (IntKind.i64.wrap (7 * (k : Int))).toNat = 7 * k := by rw [wrap_i64 (by omega) (by omega)]; omega
  have e2 : min (7 * k) 64 = 7 * k := by omega
  rw [bits_and hc, e1, e2, wu64 (x := ((c % 128 : Nat) : Int)) (by omega) (by omega)]
  have e3 : ((c % 128 : Nat) : Int) * 2 ^ (7 * k) = ((c % 128 * 128 ^ k : Nat) : Int) := by
    rw [← pow7]; push_cast; rfl
  rw [e3, wu64 (by omega) (by omega), bits_or (by omega) (by omega), ← pow7, or_shift (by rw [pow7]; exact hy)]
  rw [pow7]
  exact ⟨rfl, by omega⟩
set_option maxRecDepth 20000 in
theorem or128 : ∀ v : Fin 256, v.val ||| 128 = v.val % 128 + 128 := by decide
theorem more7 {x : Nat} : bitsI .or .u8 (IntKind.u8.wrap (x : Int)) 128 = ((x % 128 + 128 : Nat) : Int) := by
  have e : IntKind.u8.wrap (x : Int) = ((x % 256 : Nat) : Int) := by rw [wu8]; omega
  rw [e]
  show IntKind.u8.wrap (((BitVec.ofInt 8 ((x % 256 : Nat) : Int) ||| BitVec.ofInt 8 128).toNat : Nat) : Int) = _
  rw [BitVec.toNat_or, bv_nat (w := 8) (by have e : (2 : Nat) ^ 8 = 256 := by decide
                                           omega), show (BitVec.ofInt 8 128).toNat = 128 from rfl, or128 ⟨x % 256, Nat.mod_lt _ (by decide)⟩, wu8]
  show (((x % 256 % 128 + 128 : Nat)) : Int) % 256 = _
  omega
theorem shr7 {x : Nat} : ((x : Int)).fdiv (2 ^ (7 : Int).toNat) = ((x / 128 : Nat) : Int) := by
  rw [Int.fdiv_eq_ediv_of_nonneg _ (by decide)]
  rfl
end Go.Pk
namespace Go.Proofs.YtomdimlnggpgbaaGreatDoor
open Go Go.Sx Go.Pk
def lp0 (p : List Nat) : Bool := decide (p.length > 1) && !(p.head? == some 99)
def noLoops : Loops := fun _ => none
theorem newHs_zero (q : Env) (n : Nat) : newHs q n 0 = [] := rfl
theorem newHs_one (q : Env) (n : Nat) : newHs q n 1 = [q.h n] := by unfold newHs; rw [List.range_one]; rfl
theorem roots_ne {α : Type} {a : α} {l : List α} : (a :: l ≠ []) = True := by simp
theorem ptr0 (a : Nat) : Value.pointer (slP (a : Int) 0) = .pointer (some ⟨a, 0, none⟩) := by rw [slP_pos (by omega)]; rfl
def bytes256 (bs : List Int) : Prop := ∀ b ∈ bs, 0 ≤ b ∧ b < 256
theorem seg_of {R : Hl} {x y l : Int} {bs : List Int} (hl : l = bs.length) (hy : 0 ≤ y) (h : bs = [] ∨ 0 ≤ x ∧ ∀ j z, bs[j]? = some z → R.cell x.toNat (y.toNat + j) = some (.int .u8 z)) :
    ((0 ≤ x ∧ 0 ≤ y ∧ 0 ≤ l ∧ ∀ j, j < l.toNat → ∃ v, R.cell x.toNat (y.toNat + j) = some v ∧ v.oneCell' = true) ∨ l = 0) ∧ segVals R x.toNat y.toNat l.toNat = bys bs := by
  subst hl
  rw [Int.toNat_natCast]
  constructor
  · rcases h with h | ⟨hx, h⟩
    · subst h; exact Or.inr rfl
    · exact Or.inl ⟨hx, hy, by omega, fun j hj => ⟨_, h j _ (List.getElem?_eq_getElem hj), rfl⟩⟩
  · unfold segVals
    apply List.ext_getElem?
    intro j
    rw [List.getElem?_map, bys_get]
    rcases Nat.lt_or_ge j bs.length with hj | hj
    · rcases h with h | ⟨hx, h⟩
      · subst h; cases hj
      · rw [List.getElem?_range hj, Option.map_some, h j _ (List.getElem?_eq_getElem hj), List.getElem?_eq_getElem hj]
        rfl
    · rw [List.getElem?_eq_none (by simpa using hj), List.getElem?_eq_none (by omega)]; rfl
theorem own0 (F : Hl) {a : Int} (h : 0 ≤ a) (hF : F = Hl.one a.toNat (.cells #[] 5 (0, 0))) : OwnsH F 5 1 (.slice (slP a 0) (Int.toNat 0) (Int.toNat 0)) (Int.toNat 0) [] := by
  subst hF
  exact ⟨rfl, Or.inr ⟨a.toNat, 0, #[], by rw [slP_pos h]; rfl, Hl.one_self _ _, by omega, by decide, rfl, rfl⟩⟩
def cloneBS : Sx.Spec where
  fn := 84
  own := []
  rd := [0]
  res := [.one .sl]
  pre := fun xs Hs Rs => ∃ u bs R, xs = [u] ∧ Rs = [R] ∧ RdW R u bs ∧ bs.length ≤ 1000000
  post := fun xs Hs Rs v Hs' F => ∃ u bs R, xs = [u] ∧ Rs = [R] ∧ RdW R u bs ∧ OwB F 5 v bs
def cloneBNd : Nd := .and (.imp (.eq (.var 0) (.lit (-1))) (.post [.ro 4 [.var 0] false] (.sv (.one (.sl (.lit (-1)) (.lit 0) (.lit 0) (.lit 0)))))) (.imp (.not (.eq (.var 0) (.lit (-1)))) (.ext (.alloc 5) (.and (.pre (.app 6 5 1 1 (.sl (.var 5) (.lit 0) (.lit 0) (.lit 0)) (.lit 0) (.blk 5 [] 5) (.seg 4 (.var 0) (.var 1) (.var 2)))) (.ext (.app 6 5 1 1 (.sl (.var 5) (.lit 0) (.lit 0) (.lit 0)) (.lit 0) (.blk 5 [] 5) (.seg 4 (.var 0) (.var 1) (.var 2))) (.post [.ro 4 [.var 0] false, .hp 6 [] [.var 6, .var 5] []] (.sv (.one (.sl (.var 6) (.lit 0) (.var 2) (.var 7)))))))))
def cloneBW : Walk Tryz.prog [] cloneBS.fn where
  Λ := noLoops
  args := [.sv (.one (.sl (.var 0) (.var 1) (.var 2) (.var 3)))]
  mem := [.ro 4 [.var 0] false]
  nv := 5
  nd := cloneBNd
  ok := by kernel_rfl
theorem cloneBS_ok : cloneBS.OK Tryz.prog := by
  refine Spec.of_fn (Γ := []) (fun _ h => by cases h) ?_
  rintro xs Hs Rs hl1 hl2 ⟨u, bs, R, rfl, rfl, hRd, hlen⟩
  have e0 : Hs = [] := List.length_eq_zero_iff.1 hl1
  subst e0
  obtain ⟨x, y, c, rfl, hy, hR⟩ := id hRd
  refine ⟨cloneBW, envI [x, y, bs.length, c] false [Hl.none, Hl.none, Hl.none, Hl.none, R], fun _ _ => True, fun _ _ => 0, ?_, ⟨?_, ?_, ?_, ?_⟩, (fun _ h => nomatch h), ?_⟩
  · show [Value.slice (slP x y) ((bs.length : Int)).toNat ((c : Int)).toNat] = _
    rw [Int.toNat_natCast, Int.toNat_natCast]
  · intro r hr ho; simp [cloneBW] at hr; subst hr; cases ho
  · intro r hr ho; simp [cloneBW] at hr; subst hr; exact ⟨R, by simp, Hl.le_refl _⟩
  · simp [cloneBW]
  · intro r hr; simp [cloneBW] at hr; subst hr; trivial
  · show Nd.holds _ _ _ cloneBNd
    generalize hρ : envI [x, y, bs.length, c] false [Hl.none, Hl.none, Hl.none, Hl.none, R] = ρ
    have v0 : ρ.i 0 = x := by rw [← hρ]; rfl
    have v1 : ρ.i 1 = y := by rw [← hρ]; rfl
    have v2 : ρ.i 2 = bs.length := by rw [← hρ]; rfl
    have w4 : ρ.h 4 = R := by rw [← hρ]; rfl
    clear hρ
    unfold cloneBNd
    simp only [Nd.holds, X.pre, X.rel, X.n, Src.ok, Src.len, Src.vals, true_and, and_true, if_true, Nat.mul_one, Nat.add_zero, Nat.reduceAdd, List.length_cons, List.length_nil, bT_tt, bT_ff, bT_bvar, bT_not, bT_and, bT_or, bT_ite, bT_lt, bT_le, bT_eq, bT_beq, bT_seq, bT_hB, bT_his, bT_hby, bT_hism, bT_hks, iev_lit, iev_var, iev_add, iev_sub, iev_mul, iev_wrap, iev_ite, iev_hI, iev_hP, iev_hmlen, sev_ite, sev_slit, sev_sof, sev_svar, TV.ev, SV.ev, CV.ev, List.map_cons, List.map_nil, Res.hl]
    refine ⟨fun hx _ => ?_, fun hx q1 g1 p5 => ?_⟩
    · have hnil : bs = [] := by
        rcases hR with h | ⟨h, _⟩
        · exact h
        · omega
      refine ⟨[], [], rfl, rfl, ⟨⟨fun k => if k = 0 then -1 else 0, fun _ => false, fun _ => .empty, fun _ => .tuple #[], fun _ => Hl.none⟩, rfl, ⟨Int.le_refl _, Int.le_refl _, Int.le_refl _, Int.le_refl _⟩, trivial⟩, _, bs, R, rfl, rfl, hRd, ?_⟩
      rw [hnil]
      exact ⟨rfl, Or.inl ⟨rfl, rfl⟩⟩
    · obtain ⟨hok, hseg⟩ := seg_of (R := R) (x := x) (y := y) (l := (bs.length : Int)) rfl hy hR
      have ho0 := own0 (Hl.one (q1.i 5).toNat (.cells #[] 5 (0, 0))) p5 rfl
      rw [g1.i 0 (by omega), g1.i 1 (by omega), g1.i 2 (by omega), g1.h 4 (by omega), v0, v1, v2, w4]
      refine ⟨⟨⟨_, ho0⟩, Int.le_refl _, by simpa using hok, by rw [Int.toNat_natCast]; unfold maxLen; simp; omega, by rw [Int.toNat_natCast]; simp; omega⟩, fun q2 g2 ⟨a1, a2, a3, _⟩ => fun _ => ?_⟩
      have hx2 := a3 _ ho0
      rw [hseg, List.nil_append] at hx2
      refine ⟨[], [1], rfl, rfl, ⟨⟨fun k => [q2.i 6, 0, q2.i 2, q2.i 7].getD k 0, fun _ => false, fun _ => .empty, fun _ => .tuple #[], fun _ => Hl.none⟩, rfl, ⟨a1, Int.le_refl _, ?_, a2⟩, trivial⟩, _, bs, R, rfl, rfl, hRd, ?_⟩
      · show 0 ≤ q2.i 2
        rw [g2.i 2 (by omega), g1.i 2 (by omega), v2]; omega
      · show OwB (hls [q2.h 6]) _ (.slice (slP (q2.i 6) 0) (q2.i 2).toNat (q2.i 7).toNat) bs
        rw [hls_one, g2.i 2 (by omega), g1.i 2 (by omega), v2]
        unfold OwB
        rw [Int.toNat_natCast]
        simpa using hx2
def numR (bs : List Int) : Nat × Nat := (numAt bs).getD (0, 0)
def InRd (R1 R2 : Hl) (p : Value) (bs : List Int) (bad : Bool) : Prop := ∃ (a : Nat) (x y : Int) (c : Nat), p = .pointer (some ⟨a, 0, none⟩) ∧ R1.cell a 0 = some (.slice (slP x y) bs.length c) ∧ R1.cell a 1 = some (.bool bad) ∧ -1 ≤ x ∧ 0 ≤ y ∧ RdB R2 (.slice (slP x y) bs.length c) bs
theorem InRd.uniq {R1 R2 : Hl} {p : Value} {a b : List Int} {x y : Bool} (h : InRd R1 R2 p a x) (h' : InRd R1 R2 p b y) : a = b ∧ x = y := by
  obtain ⟨a1, x1, y1, c1, e1, h1, h2, _, _, h3⟩ := h
  obtain ⟨a2, x2, y2, c2, e2, k1, k2, _, _, k3⟩ := h'
  rw [e1] at e2
  simp only [Value.pointer.injEq, Option.some.injEq, Addr.mk.injEq, and_true] at e2
  subst e2
  rw [h1] at k1
  have k1 := Option.some.inj k1
  rw [← k1] at k3
  rw [h2] at k2
  simp only [Option.some.injEq, Value.bool.injEq] at k2
  exact ⟨h3.uniq k3, k2⟩
def numberS : Sx.Spec where
  fn := 124
  own := []
  rd := [0, 1000]
  res := [.one (.int .u64), .one (.int .i64)]
  pre := fun xs Hs Rs => ∃ p R1 R2 bs bad, xs = [p] ∧ Rs = [R1, R2] ∧ InRd R1 R2 p bs bad ∧ bytes256 bs ∧ bs.length ≤ 1000000
  post := fun xs Hs Rs v Hs' F => ∃ p R1 R2 bs bad, xs = [p] ∧ Rs = [R1, R2] ∧ InRd R1 R2 p bs bad ∧ v = .tuple #[.int .u64 (numR bs).1, .int .i64 (numR bs).2]
def numberNd : Nd := .and (.e (.le (.lit 0) (.var 0))) (.and (.e (.his 2 (.var 0) (.lit 0) 0 .slice)) (.and (.e (.le (.lit 0) (.hP 2 (.var 0) (.lit 0) 0 2))) (.and (.inv 0 [⟨10, 0, .int .i64 (.lit 0)⟩, ⟨11, 0, .int .i64 (.lit 0)⟩] []) (.havoc 0 0 3 (.and (.imp (.lt (.var 11) (.hP 2 (.var 0) (.lit 0) 0 2)) (.and (.e (.le (.lit 0) (.hP 2 (.var 0) (.lit 0) 0 0))) (.and (.e (.le (.lit 0) (.hP 2 (.var 0) (.lit 0) 0 1))) (.and (.e (.le (.lit 0) (.var 11))) (.and (.e (.his 1 (.hP 2 (.var 0) (.lit 0) 0 0) (.add (.hP 2 (.var 0) (.lit 0) 0 1) (.var 11)) 0 (.int .u8))) (.and (.imp (.eq (.var 11) (.lit 9)) (.and (.imp (.not (.lt (.lit 1) (.hI 1 (.hP 2 (.var 0) (.lit 0) 0 0) (.add (.hP 2 (.var 0) (.lit 0) 0 1) (.var 11)) 0))) (.and (.e (.le (.lit 0) (.wrap .i64 (.mul (.lit 7) (.var 11))))) (.and (.imp (.eq (.hI 1 (.hP 2 (.var 0) (.lit 0) 0 0) (.add (.hP 2 (.var 0) (.lit 0) 0 1) (.var 11)) 0) (.lit 0)) (.post [.ro 1 [.hP 2 (.var 0) (.lit 0) 0 0] false, .ro 2 [.var 0] false] (.tup [.one (.int .u64 (.lit 0)), .one (.int .i64 (.lit 0))]))) (.imp (.not (.eq (.hI 1 (.hP 2 (.var 0) (.lit 0) 0 0) (.add (.hP 2 (.var 0) (.lit 0) 0 1) (.var 11)) 0) (.lit 0))) (.post [.ro 1 [.hP 2 (.var 0) (.lit 0) 0 0] false, .ro 2 [.var 0] false] (.tup [.one (.int .u64 (.bits .or .u64 (.var 10) (.shl .u64 (.wrap .u64 (.bits .and .u8 (.hI 1 (.hP 2 (.var 0) (.lit 0) 0 0) (.add (.hP 2 (.var 0) (.lit 0) 0 1) (.var 11)) 0) (.lit 127))) (.wrap .i64 (.mul (.lit 7) (.var 11)))))), .one (.int .i64 (.wrap .i64 (.add (.var 11) (.lit 1))))])))))) (.imp (.lt (.lit 1) (.hI 1 (.hP 2 (.var 0) (.lit 0) 0 0) (.add (.hP 2 (.var 0) (.lit 0) 0 1) (.var 11)) 0)) (.post [.ro 1 [.hP 2 (.var 0) (.lit 0) 0 0] false, .ro 2 [.var 0] false] (.tup [.one (.int .u64 (.lit 0)), .one (.int .i64 (.lit 0))]))))) (.imp (.not (.eq (.var 11) (.lit 9))) (.and (.imp (.lt (.lit 9) (.var 11)) (.post [.ro 1 [.hP 2 (.var 0) (.lit 0) 0 0] false, .ro 2 [.var 0] false] (.tup [.one (.int .u64 (.lit 0)), .one (.int .i64 (.lit 0))]))) (.imp (.not (.lt (.lit 9) (.var 11))) (.and (.e (.le (.lit 0) (.wrap .i64 (.mul (.lit 7) (.var 11))))) (.and (.imp (.lt (.hI 1 (.hP 2 (.var 0) (.lit 0) 0 0) (.add (.hP 2 (.var 0) (.lit 0) 0 1) (.var 11)) 0) (.lit 128)) (.and (.imp (.eq (.hI 1 (.hP 2 (.var 0) (.lit 0) 0 0) (.add (.hP 2 (.var 0) (.lit 0) 0 1) (.var 11)) 0) (.lit 0)) (.and (.imp (.lt (.lit 0) (.var 11)) (.post [.ro 1 [.hP 2 (.var 0) (.lit 0) 0 0] false, .ro 2 [.var 0] false] (.tup [.one (.int .u64 (.lit 0)), .one (.int .i64 (.lit 0))]))) (.imp (.not (.lt (.lit 0) (.var 11))) (.post [.ro 1 [.hP 2 (.var 0) (.lit 0) 0 0] false, .ro 2 [.var 0] false] (.tup [.one (.int .u64 (.bits .or .u64 (.var 10) (.shl .u64 (.wrap .u64 (.bits .and .u8 (.hI 1 (.hP 2 (.var 0) (.lit 0) 0 0) (.add (.hP 2 (.var 0) (.lit 0) 0 1) (.var 11)) 0) (.lit 127))) (.wrap .i64 (.mul (.lit 7) (.var 11)))))), .one (.int .i64 (.wrap .i64 (.add (.var 11) (.lit 1))))]))))) (.imp (.not (.eq (.hI 1 (.hP 2 (.var 0) (.lit 0) 0 0) (.add (.hP 2 (.var 0) (.lit 0) 0 1) (.var 11)) 0) (.lit 0))) (.post [.ro 1 [.hP 2 (.var 0) (.lit 0) 0 0] false, .ro 2 [.var 0] false] (.tup [.one (.int .u64 (.bits .or .u64 (.var 10) (.shl .u64 (.wrap .u64 (.bits .and .u8 (.hI 1 (.hP 2 (.var 0) (.lit 0) 0 0) (.add (.hP 2 (.var 0) (.lit 0) 0 1) (.var 11)) 0) (.lit 127))) (.wrap .i64 (.mul (.lit 7) (.var 11)))))), .one (.int .i64 (.wrap .i64 (.add (.var 11) (.lit 1))))]))))) (.imp (.not (.lt (.hI 1 (.hP 2 (.var 0) (.lit 0) 0 0) (.add (.hP 2 (.var 0) (.lit 0) 0 1) (.var 11)) 0) (.lit 128))) (.back 0 0 [⟨10, 0, .int .i64 (.bits .or .u64 (.var 10) (.shl .u64 (.wrap .u64 (.bits .and .u8 (.hI 1 (.hP 2 (.var 0) (.lit 0) 0 0) (.add (.hP 2 (.var 0) (.lit 0) 0 1) (.var 11)) 0) (.lit 127))) (.wrap .i64 (.mul (.lit 7) (.var 11)))))⟩, ⟨11, 0, .int .i64 (.wrap .i64 (.add (.var 11) (.lit 1)))⟩] []))))))))))))) (.imp (.not (.lt (.var 11) (.hP 2 (.var 0) (.lit 0) 0 2))) (.post [.ro 1 [.hP 2 (.var 0) (.lit 0) 0 0] false, .ro 2 [.var 0] false] (.tup [.one (.int .u64 (.lit 0)), .one (.int .i64 (.lit 0))]))))))))
def numberW : Walk Tryz.prog [] numberS.fn where
  Λ := fun p => if lp0 p then some ⟨0, [(4, TI .u64 (.var 10)), (12, TI .i64 (.var 11))], [], 12⟩ else none
  args := [TP (.var 0) (.lit 0)]
  mem := [.ro 1 [.hP 2 (.var 0) (.lit 0) 0 0] false, .ro 2 [.var 0] false]
  nv := 3
  nd := numberNd
  ok := by kernel_rfl
def numberInv (bs : List Int) (_ : Nat) (q : Env) : Prop := ∃ k y : Nat, q.i 11 = k ∧ q.i 10 = y ∧ k ≤ 10 ∧ y < 128 ^ k ∧ numAt bs = numGo (bs.drop k) k y
theorem sl0 {x y : Int} (hx : -1 ≤ x) (n c : Nat) : valP (some (.slice (slP x y) n c)) 0 = x := by
  rcases Int.lt_or_le x 0 with h | h
  · obtain rfl : x = -1 := by omega
    rfl
  · rw [slP_pos h]; show ((x.toNat : Nat) : Int) = x; omega
theorem sl1 {x y : Int} (hx : 0 ≤ x) (hy : 0 ≤ y) (n c : Nat) : valP (some (.slice (slP x y) n c)) 1 = y := by
  rw [slP_pos hx]; show ((y.toNat : Nat) : Int) = y; omega
theorem sl2 {x y : Int} (hx : -1 ≤ x) (n c : Nat) : valP (some (.slice (slP x y) n c)) 2 = n := by
  rcases Int.lt_or_le x 0 with h | h
  · obtain rfl : x = -1 := by omega
    rfl
  · rw [slP_pos h]; rfl
theorem numGo_step {bs : List Int} {k y c : Nat} (hc : bs[k]? = some (c : Int)) : numGo (bs.drop k) k y = if (k = 9 ∧ 1 < c) ∨ 9 < k then none else if c < 128 then (if c = 0 ∧ 0 < k then none else some (y + c * 128 ^ k, k + 1)) else numGo (bs.drop (k + 1)) (k + 1) (y + (c % 128) * 128 ^ k) := by
  have hk := (List.getElem?_eq_some_iff.1 hc).1
  have e : bs.drop k = (c : Int) :: bs.drop (k + 1) := by
    rw [List.drop_eq_getElem_cons hk, (List.getElem?_eq_some_iff.1 hc).2]
  rw [e]
  show (if (k = 9 ∧ 1 < (c : Int)) ∨ 9 < k then none else if (c : Int) < 128 then (if (c : Int) = 0 ∧ 0 < k then none else some (y + ((c : Int)).toNat * 128 ^ k, k + 1)) else numGo (bs.drop (k + 1)) (k + 1) (y + (((c : Int)).toNat % 128) * 128 ^ k)) = _
  rw [Int.toNat_natCast]
  have h1 : ((1 : Int) < (c : Int)) ↔ 1 < c := by omega
  have h2 : ((c : Int) < 128) ↔ c < 128 := by omega
  have h3 : ((c : Int) = 0) ↔ c = 0 := by omega
  simp only [h1, h2, h3]
theorem numberS_ok : numberS.OK Tryz.prog := by
  refine Spec.of_fn (Γ := []) (fun _ h => by cases h) ?_
  rintro xs Hs Rs hl1 hl2 ⟨p, R1, R2, bs, bad, rfl, rfl, hIn, hby, hlen⟩
  have e0 : Hs = [] := List.length_eq_zero_iff.1 hl1
  subst e0
  obtain ⟨a, x, y, c, rfl, hc0, hc1, hx, hy, hR⟩ := id hIn
  refine ⟨numberW, envI [(a : Int)] false [Hl.none, R2, R1], numberInv bs, fun _ q => ((bs.length : Int) - q.i 11).toNat, ?_, ⟨?_, ?_, ?_, ?_⟩, (fun _ h => nomatch h), ?_⟩
  · show [Value.pointer (slP (a : Int) 0)] = _
    rw [ptr0]
  · intro r hr ho; simp [numberW] at hr; rcases hr with rfl | rfl <;> cases ho
  · intro r hr ho; simp [numberW] at hr
    rcases hr with rfl | rfl
    · exact ⟨R2, by simp, Hl.le_refl _⟩
    · exact ⟨R1, by simp, Hl.le_refl _⟩
  · simp [numberW, Res.own]
  · intro r hr; simp [numberW] at hr; rcases hr with rfl | rfl <;> trivial
  · show Nd.holds _ _ _ numberNd
    generalize hρ : envI [(a : Int)] false [Hl.none, R2, R1] = ρ
    have v0 : ρ.i 0 = a := by rw [← hρ]; rfl
    have w1 : ρ.h 1 = R2 := by rw [← hρ]; rfl
    have w2 : ρ.h 2 = R1 := by rw [← hρ]; rfl
    clear hρ
    have out : ∀ (q : Env) (mem : Mem) (e1 e2 : E), iev q e1 = (numR bs).1 → iev q e2 = (numR bs).2 → postOf numberS [.pointer (some ⟨a, 0, none⟩)] [] [R1, R2] q mem (.tup [.one (.int .u64 e1), .one (.int .i64 e2)]) := fun q mem e1 e2 h1 h2 _ =>
      ⟨[], [], rfl, rfl, ⟨⟨fun k => if k = 0 then (numR bs).1 else (numR bs).2, fun _ => false, fun _ => .empty, fun _ => .tuple #[], fun _ => Hl.none⟩, by show Value.tuple #[.int .u64 (iev q e1), .int .i64 (iev q e2)] = _; rw [h1, h2]; rfl, trivial, trivial, trivial⟩, _, R1, R2, bs, bad, rfl, rfl, hIn, by show Value.tuple #[.int .u64 (iev q e1), .int .i64 (iev q e2)] = _; rw [h1, h2]⟩
    have none0 : ∀ (q : Env) (mem : Mem), numAt bs = none → postOf numberS [.pointer (some ⟨a, 0, none⟩)] [] [R1, R2] q mem (.tup [.one (.int .u64 (.lit 0)), .one (.int .i64 (.lit 0))]) := fun q mem h => out q mem _ _ (by unfold numR; rw [h]; rfl) (by unfold numR; rw [h]; rfl)
    have tn0 : Int.toNat 0 = 0 := rfl
    unfold numberNd
    simp only [Nd.holds, X.pre, X.rel, X.n, Src.ok, Src.len, Src.vals, true_and, and_true, if_true, Nat.mul_one, Nat.add_zero, Nat.reduceAdd, List.length_cons, List.length_nil, bT_tt, bT_ff, bT_bvar, bT_not, bT_and, bT_or, bT_ite, bT_lt, bT_le, bT_eq, bT_beq, bT_seq, bT_hB, bT_his, bT_hby, bT_hism, bT_hks, iev_lit, iev_var, iev_add, iev_sub, iev_mul, iev_wrap, iev_ite, iev_hI, iev_hP, iev_hmlen, sev_ite, sev_slit, sev_sof, sev_svar, TV.ev, SV.ev, CV.ev, List.map_cons, List.map_nil, Res.hl, tn0]
    rw [v0, w2, Int.toNat_natCast, hc0, sl2 hx]
    refine ⟨by omega, rfl, by omega, ⟨0, 0, rfl, rfl, by omega, by decide, rfl⟩, fun q g ⟨k, y', e11, e10, hk, hyk, hnum⟩ => ?_⟩
    rw [g.i 0 (by omega), v0, g.h 2 (by omega), w2, g.h 1 (by omega), w1, Int.toNat_natCast, hc0, sl2 hx, e11]
    refine ⟨fun hlt => ?_, fun hge => none0 q _ (by rw [hnum, List.drop_eq_nil_of_le (by omega)]; rfl)⟩
    obtain ⟨z, hz⟩ : ∃ z, bs[k]? = some z := ⟨_, List.getElem?_eq_getElem (by omega)⟩
    have hzr := hby z (List.mem_of_getElem? hz)
    obtain ⟨cz, rfl⟩ : ∃ cz : Nat, z = cz := ⟨z.toNat, by omega⟩
    obtain ⟨hx0, hcells⟩ : 0 ≤ x ∧ ∀ j z, bs[j]? = some z → R2.cell x.toNat (y.toNat + j) = some (.int .u8 z) := by
      obtain ⟨x', y', c', he, hy', h⟩ := hR
      simp only [Value.slice.injEq] at he
      obtain ⟨hp, _, _⟩ := he
      rcases h with ⟨_, h⟩ | ⟨h0, h⟩
      · rw [h] at hz; simp at hz
      · obtain ⟨e1, e2⟩ := slP_inj hx hy (by omega) hy' hp
        have e2 := e2 (by omega)
        subst e1 e2
        exact ⟨h0, h⟩
    have hcell : R2.cell x.toNat (y + (k : Int)).toNat = some (.int .u8 cz) := by
      rw [← hcells k _ hz]; congr 1; omega
    rw [sl0 hx, sl1 hx0 hy, hcell]
    have hst := numGo_step (y := y') hz
    rw [← hnum] at hst
    have ev : valI (some (Value.int .u8 (cz : Int))) = cz := rfl
    rw [ev]
    have rest : ∀ q' : Env, q' = q → k ≤ 9 → (k = 9 → cz ≤ 1) → iev q' (.bits .or .u64 (.var 10) (.shl .u64 (.wrap .u64 (.bits .and .u8 (.hI 1 (.hP 2 (.var 0) (.lit 0) 0 0) (.add (.hP 2 (.var 0) (.lit 0) 0 1) (.var 11)) 0) (.lit 127))) (.wrap .i64 (.mul (.lit 7) (.var 11))))) = ((y' + cz % 128 * 128 ^ k : Nat) : Int) := by
      rintro q' rfl h9 hc9
      have hn := (next7 hyk h9 (by omega) hc9).1
      rw [iev_bits, iev_shl, iev_wrap, iev_wrap, iev_bits, iev_hI, iev_hP, iev_add, iev_hP, iev_mul]
      simp only [iev_var, iev_lit]
      rw [g.i 0 (by omega), v0, g.h 2 (by omega), w2, g.h 1 (by omega), w1, Int.toNat_natCast, tn0, Nat.add_zero, hc0, sl0 hx, sl1 hx0 hy, Nat.add_zero, e11, hcell, e10]
      exact hn
    have hw : 0 ≤ IntKind.i64.wrap (7 * (k : Int)) := by rw [wrap_i64 (by omega) (by omega)]; omega
    have m11 : IntKind.i64.wrap (q.i 11 + 1) = k + 1 := by rw [e11, wrap_i64 (by omega) (by omega)]
    have fin : ∀ mem, numAt bs = some (y' + cz * 128 ^ k, k + 1) → cz < 128 → k ≤ 9 → (k = 9 → cz ≤ 1) → postOf numberS [.pointer (some ⟨a, 0, none⟩)] [] [R1, R2] q mem (.tup [.one (.int .u64 (.bits .or .u64 (.var 10) (.shl .u64 (.wrap .u64 (.bits .and .u8 (.hI 1 (.hP 2 (.var 0) (.lit 0) 0 0) (.add (.hP 2 (.var 0) (.lit 0) 0 1) (.var 11)) 0) (.lit 127))) (.wrap .i64 (.mul (.lit 7) (.var 11)))))), .one (.int .i64 (.wrap .i64 (.add (.var 11) (.lit 1))))]) := by
      intro mem hn h128 h9 hc9
      refine out q mem _ _ ?_ ?_
      · rw [rest q rfl h9 hc9, Nat.mod_eq_of_lt h128]; unfold numR; rw [hn]; rfl
      · show IntKind.i64.wrap (q.i 11 + 1) = _
        rw [m11]; unfold numR; rw [hn]; rfl
    refine ⟨hx0, hy, by omega, rfl, fun h9 => ⟨fun h1 => ⟨hw, fun h0 => none0 q _ ?_, fun h0 => fin _ ?_ (by omega) (by omega) (by omega)⟩, fun h1 => none0 q _ ?_⟩, fun h9 => ⟨fun hg9 => none0 q _ ?_, fun hg9 => ⟨hw, fun h128 => ⟨fun h0 => ⟨fun hk0 => none0 q _ ?_, fun hk0 => fin _ ?_ (by omega) (by omega) (by omega)⟩, fun h0 => fin _ ?_ (by omega) (by omega) (by omega)⟩, fun h128 => ⟨⟨k + 1, y' + cz % 128 * 128 ^ k, ?_, ?_, by omega, ?_, ?_⟩, ?_⟩⟩⟩⟩
    · rw [hst, if_neg (by omega), if_pos (by omega), if_pos (by omega)]
    · rw [hst, if_neg (by omega), if_pos (by omega), if_neg (by omega)]
    · rw [hst, if_pos (by omega)]
    · rw [hst, if_pos (by omega)]
    · rw [hst, if_neg (by omega), if_pos (by omega), if_pos (by omega)]
    · rw [hst, if_neg (by omega), if_pos (by omega), if_neg (by omega)]
    · rw [hst, if_neg (by omega), if_pos (by omega), if_neg (by omega)]
    · show IntKind.i64.wrap (q.i 11 + 1) = _
      rw [m11]; omega
    · show iev q _ = _
      exact rest q rfl (by omega) (by omega)
    · rw [Nat.pow_succ, Nat.mul_comm (128 ^ k) 128]
      have : cz % 128 * 128 ^ k ≤ 127 * 128 ^ k := Nat.mul_le_mul_right _ (by omega)
      omega
    · rw [hst, if_neg (by omega), if_neg (by omega)]
    · show ((bs.length : Int) - IntKind.i64.wrap (q.i 11 + 1)).toNat < _
      rw [m11]; omega
theorem number_post {p v : Value} {R1 R2 F : Hl} {Hs K : List Hl} {bs : List Int} {bad : Bool} (h : InRd R1 R2 p bs bad) (hp : numberS.post [p] Hs [R1, R2] v K F) : v = .tuple #[.int .u64 (numR bs).1, .int .i64 (numR bs).2] := by
  obtain ⟨p', S1, S2, bs', bad', hx, hR, hIn, hv⟩ := hp
  have hx : p = p' := by simpa using hx
  have hR : R1 = S1 ∧ R2 = S2 := by simpa using hR
  obtain ⟨e1, e2⟩ := hR
  subst hx e1 e2
  rw [(h.uniq hIn).1]; exact hv
end Go.Proofs.YtomdimlnggpgbaaGreatDoor
namespace Go.Proofs.YtomdimlnggpgbaaGreatDoor
open Go Go.Sx Go.Pk
def inS (a : Nat) (x y c : Int) (n : Nat) (bad : Bool) : Hl := Hl.one a (.cells #[.slice (slP x y) ((n : Int)).toNat c.toNat, .bool bad] 203 (0, 0))
structure InIn (H : Hl) (a : Nat) (x y c : Int) (F : Hl) (bs : List Int) (bad : Bool) : Prop where
  rx : -1 ≤ x
  ry : 0 ≤ y
  rc : (bs.length : Int) ≤ c
  byte : bytes256 bs
  len : bs.length ≤ 1000000
  rd : RdB F (.slice (slP x y) ((bs.length : Int)).toNat c.toNat) bs
  na : ¬ F.mem a
  hl : H = hls [inS a x y c bs.length bad, F]
def InAt (H : Hl) (p : Value) (bs : List Int) (bad : Bool) : Prop := ∃ a x y c F, p = .pointer (some ⟨a, 0, none⟩) ∧ InIn H a x y c F bs bad
theorem rdB_mono {F G : Hl} (h : F.le G) {v : Value} {bs : List Int} (hr : RdB F v bs) : RdB G v bs := by
  obtain ⟨x, y, c, e, hy, hr⟩ := hr
  refine ⟨x, y, c, e, hy, hr.imp id fun ⟨h0, hc⟩ => ⟨h0, fun j z hz => ?_⟩⟩
  have := hc j z hz
  unfold Hl.cell at this ⊢
  cases hF : F x.toNat with
  | none => rw [hF] at this; cases this
  | some o => rw [h _ _ hF]; rw [hF] at this; exact this
section
variable {H F : Hl} {a : Nat} {x y c : Int} {bs : List Int} {bad : Bool}
theorem InIn.le (h : InIn H a x y c F bs bad) : (inS a x y c bs.length bad).le H ∧ F.le H := by
  have hd : (inS a x y c bs.length bad).dis F := Hl.one_dis.2 h.na
  rw [h.hl]
  show (inS a x y c bs.length bad).le ((inS a x y c bs.length bad).un (F.un Hl.none)) ∧ F.le ((inS a x y c bs.length bad).un (F.un Hl.none))
  rw [Hl.un_none]
  exact ⟨Hl.un_left _ _, Hl.un_right hd⟩
theorem InIn.split (h : InIn H a x y c F bs bad) : InRd (inS a x y c bs.length bad) F (.pointer (some ⟨a, 0, none⟩)) bs bad := by
  have hrd := h.rd
  rw [Int.toNat_natCast] at hrd
  refine ⟨a, x, y, c.toNat, rfl, ?_, ?_, h.rx, h.ry, hrd⟩
  · unfold inS Hl.cell; rw [Hl.one_self, Int.toNat_natCast]; rfl
  · unfold inS Hl.cell; rw [Hl.one_self]; rfl
theorem InAt.whole {p : Value} (h : InAt H p bs bad) : InRd H H p bs bad := by
  obtain ⟨a, x, y, c, F, rfl, h⟩ := h
  obtain ⟨l1, l2⟩ := h.le
  obtain ⟨a', x', y', c', e, h1, h2, h3, h4, h5⟩ := h.split
  simp only [Value.pointer.injEq, Option.some.injEq, Addr.mk.injEq, and_true] at e
  subst e
  have up : ∀ j v, (inS a x y c bs.length bad).cell a j = some v → H.cell a j = some v := by
    intro j v hv
    have e := l1 a _ (Hl.one_self _ _)
    unfold inS Hl.cell at hv
    rw [Hl.one_self] at hv
    unfold Hl.cell; rw [e]; exact hv
  exact ⟨a, x', y', c', rfl, up 0 _ h1, up 1 _ h2, h3, h4, rdB_mono l2 h5⟩
theorem InAt.uniq {p : Value} {bs' : List Int} {bad' : Bool} (h : InAt H p bs bad) (h' : InAt H p bs' bad') : bs = bs' ∧ bad = bad' := h.whole.uniq h'.whole
theorem InAt.byte {p : Value} (h : InAt H p bs bad) : bytes256 bs ∧ bs.length ≤ 1000000 := by
  obtain ⟨a, x, y, c, F, _, h⟩ := h
  exact ⟨h.byte, h.len⟩
end
def inMem : Mem := [.blk 0 [.sl (.var 1) (.var 2) (.var 3) (.var 4), .bool (.bvar 6)] 203, .hp 7 [] [.var 1] []]
def inEnv (a : Nat) (x y c : Int) (bs : List Int) (bad : Bool) (F : Hl) (z : Int) : Env := envI [(a : Int), x, y, bs.length, c, z] bad [Hl.none, Hl.none, Hl.none, Hl.none, Hl.none, Hl.none, Hl.none, F]
section
variable {H F : Hl} {a : Nat} {x y c : Int} {bs : List Int} {bad : Bool}
theorem inEntry (h : InIn H a x y c F bs bad) (z : Int) : Entry (inEnv a x y c bs bad F z) inMem [H] [] := by
  obtain ⟨l1, l2⟩ := h.le
  have hb : (Res.blk 0 [.sl (.var 1) (.var 2) (.var 3) (.var 4), .bool (.bvar 6)] 203).hl (inEnv a x y c bs bad F z) = inS a x y c bs.length bad := by
    show Hl.one ((a : Int)).toNat (.cells #[.slice (slP x y) ((bs.length : Int)).toNat c.toNat, .bool bad] 203 (0, 0)) = _
    rw [Int.toNat_natCast]; rfl
  refine ⟨fun r hr ho => ⟨H, by simp, ?_⟩, fun r hr ho => ?_, ?_, fun r hr => ?_⟩
  · simp only [inMem, List.mem_cons, List.mem_nil_iff, or_false] at hr
    rcases hr with rfl | rfl
    · rw [hb]; exact l1
    · exact l2
  · simp only [inMem, List.mem_cons, List.mem_nil_iff, or_false] at hr
    rcases hr with rfl | rfl <;> cases ho
  · unfold inMem
    refine List.Pairwise.cons (fun r hr _ _ => ?_) (List.Pairwise.cons (fun r hr => by cases hr) List.Pairwise.nil)
    rw [List.mem_singleton] at hr
    subst hr
    rw [hb]
    exact Hl.one_dis.2 h.na
  · simp only [inMem, List.mem_cons, List.mem_nil_iff, or_false] at hr
    rcases hr with rfl | rfl
    · show (0 : Int) ≤ (a : Int); omega
    · trivial
theorem inOut (h : InIn H a x y c F bs bad) {z : Int} {q : Env} (hq : Agree 8 (inEnv a x y c bs bad F z) q) {Y N C g : E} {y' c' : Int} {bs' : List Int} {bad' : Bool} {v7 : List Nat} {t7 : List E} {t : Mem} (hY : iev q Y = y') (hN : iev q N = bs'.length) (hC : iev q C = c') (hg : bev q g = bad') (hy : 0 ≤ y') (hc : (bs'.length : Int) ≤ c') (hb : bytes256 bs') (hl : bs'.length ≤ bs.length) (hr : RdB F (.slice (slP x y') ((bs'.length : Int)).toNat c'.toNat) bs') :
    InAt (uni q (.blk 0 [.sl (.var 1) Y N C, .bool g] 203 :: .hp 7 v7 t7 [] :: t) [0, 1]) (.pointer (some ⟨a, 0, none⟩)) bs' bad' := by
  have hlen := h.len
  refine ⟨a, x, y', c', F, rfl, h.rx, hy, hc, hb, by omega, hr, h.na, ?_⟩
  show hls [Hl.one (q.i 0).toNat (.cells #[.slice (slP (q.i 1) (iev q Y)) (iev q N).toNat (iev q C).toNat, .bool (bev q g)] 203 (0, 0)), q.h 7] = _
  rw [hY, hN, hC, hg, hq.i 0 (by omega), hq.i 1 (by omega), hq.h 7 (by omega)]
  show hls [Hl.one ((a : Int)).toNat _, F] = _
  rw [Int.toNat_natCast]; rfl
theorem bytes_drop (h : bytes256 bs) (m : Nat) : bytes256 (bs.drop m) := fun b hb => h b (List.mem_of_mem_drop hb)
theorem rd_drop (h : InIn H a x y c F bs bad) {m : Nat} (hm : m ≤ bs.length) : RdB F (.slice (slP x (if c = m then y else y + m)) (((bs.drop m).length : Int)).toNat (c - m).toNat) (bs.drop m) := by
  obtain ⟨_, hr⟩ := h.rd.at h.rx h.ry (by omega)
  have hy := h.ry
  refine ⟨x, if c = m then y else y + m, (c - m).toNat, by rw [Int.toNat_natCast], by split <;> omega, ?_⟩
  rcases hr with ⟨h1, h2⟩ | ⟨h0, hc⟩
  · left
    exact ⟨h1, by rw [h2]; simp⟩
  · right
    refine ⟨h0, fun j z hz => ?_⟩
    rw [List.getElem?_drop] at hz
    have hj := (List.getElem?_eq_some_iff.1 hz).1
    have hrc := h.rc
    rw [if_neg (by omega), show (y + (m : Int)).toNat + j = y.toNat + (m + j) by omega]
    exact hc _ z hz
end
theorem iev_drop (q : Env) (C M Y : E) : iev q (.ite (.eq C M) Y (.add Y M)) = if iev q C = iev q M then iev q Y else iev q Y + iev q M := by
  simp only [iev_ite, bT_eq, iev_add]
def inNum (bs : List Int) (bad : Bool) (most : Int) : Int × List Int × Bool := if bad = true ∨ (numR bs).2 = 0 ∨ most < ((numR bs).1 : Int) then (0, bs, true) else ((numR bs).1, bs.drop (numR bs).2, false)
def inText (bs : List Int) (bad : Bool) (most : Int) : List Int × List Int × Bool :=
  if bad = true ∨ (numR bs).2 = 0 ∨ most < 0 ∨ min (min most 4096) ((bs.length : Int) - (numR bs).2) < ((numR bs).1 : Int) then ([], bs, true) else ((bs.drop (numR bs).2).take (numR bs).1, bs.drop ((numR bs).2 + (numR bs).1), false)
theorem numR_le {bs : List Int} (hb : bytes256 bs) : (numR bs).2 ≤ bs.length ∧ (numR bs).1 < 18446744073709551616 := by
  unfold numR
  cases h : numAt bs with
  | none => exact ⟨Nat.zero_le _, by decide⟩
  | some r =>
    obtain ⟨x, m⟩ := r
    obtain ⟨_, h2, _, h4⟩ := numAt_dec hb h
    exact ⟨h2, h4⟩
def readPS : Sx.Spec where
  fn := 80
  own := []
  rd := [0]
  res := [.one .ptr]
  pre := fun xs Hs Rs => ∃ u bs R, xs = [u] ∧ Rs = [R] ∧ RdW R u bs ∧ bytes256 bs ∧ bs.length ≤ 1000000
  post := fun xs Hs Rs v Hs' F => ∃ u bs R, xs = [u] ∧ Rs = [R] ∧ RdW R u bs ∧ InAt F v bs false
def numS : Sx.Spec where
  fn := 110
  own := [.arg 0]
  rd := []
  res := [.one (.int .u64)]
  pre := fun xs Hs Rs => ∃ p most H bs bad, xs = [p, .int .u64 most] ∧ Hs = [H] ∧ InAt H p bs bad
  post := fun xs Hs Rs v Hs' F => ∃ p most H bs bad H', xs = [p, .int .u64 most] ∧ Hs = [H] ∧ InAt H p bs bad ∧ Hs' = [H'] ∧ InAt H' p (inNum bs bad most).2.1 (inNum bs bad most).2.2 ∧ v = .int .u64 (inNum bs bad most).1
def inΓ : List Sx.Spec := [numberS, cloneBS]
theorem inΓ_ok : ∀ t ∈ inΓ, t.OK Tryz.prog := fun t ht => by
  simp only [inΓ, List.mem_cons, List.mem_nil_iff, or_false] at ht
  rcases ht with rfl | rfl
  · exact numberS_ok
  · exact cloneBS_ok
theorem ig0 : inΓ[0]? = some numberS := rfl
theorem ig1 : inΓ[1]? = some cloneBS := rfl
theorem ir0 : numberS.res = [.one (.int .u64), .one (.int .i64)] := rfl
theorem ir1 : cloneBS.res = [.one .sl] := rfl
theorem ic1 : (cpRoots 0 [Cp.one .sl] ≠ []) = True := by simp [cpRoots, Cp.roots, Ck.root]
theorem inBlk_hl {q : Env} {a : Nat} {x y c : Int} {n : Nat} {bad : Bool} (h0 : q.i 0 = a) (h1 : q.i 1 = x) (h2 : q.i 2 = y) (h3 : q.i 3 = n) (h4 : q.i 4 = c) (h6 : q.b 6 = bad) :
    Hl.one (q.i 0).toNat (.cells #[.slice (slP (q.i 1) (q.i 2)) (q.i 3).toNat (q.i 4).toNat, .bool (bev q (.bvar 6))] 203 (0, 0)) = inS a x y c n bad := by
  rw [bev_bvar, h0, h1, h2, h3, h4, h6, Int.toNat_natCast]; rfl
end Go.Proofs.YtomdimlnggpgbaaGreatDoor
namespace Go.Proofs.YtomdimlnggpgbaaGreatDoor
open Go Go.Sx Go.Pk
def readPNd : Nd := .and (.pre (.call 1 5 [.sv (.one (.sl (.var 0) (.var 1) (.var 2) (.var 3)))] [] [.ro 4 [.var 0] false])) (.ext (.call 1 5 [.sv (.one (.sl (.var 0) (.var 1) (.var 2) (.var 3)))] [] [.ro 4 [.var 0] false]) (.ext (.alloc 9) (.post [.ro 4 [.var 0] false, .hp 5 [] [.var 5] [], .blk 9 [.sl (.var 5) (.var 6) (.var 7) (.var 8), .bool .ff] 203] (.sv (.one (.hptr (.var 9) (.lit 0)))))))
def readPW : Walk Tryz.prog inΓ readPS.fn where
  Λ := noLoops
  args := [.sv (.one (.sl (.var 0) (.var 1) (.var 2) (.var 3)))]
  mem := [.ro 4 [.var 0] false]
  nv := 5
  nd := readPNd
  ok := by kernel_rfl
theorem clone_post {u v : Value} {bs : List Int} {R F : Hl} {Hs K : List Hl} (h : RdW R u bs) (hp : cloneBS.post [u] Hs [R] v K F) : OwB F 5 v bs := by
  obtain ⟨u', bs', R', hx, hR, hB, hO⟩ := hp
  have hx : u = u' := by simpa using hx
  have hR : R = R' := by simpa using hR
  subst hx hR
  rw [h.uniq hB]; exact hO
theorem owB_cap {F : Hl} {e : TypeId} {x y l c : Int} {bs : List Int} (h : OwB F e (.slice (slP x y) l.toNat c.toNat) bs) (hl : 0 ≤ l) (hc : 0 ≤ c) : l ≤ c := by
  obtain ⟨_, h⟩ := h
  rcases h with ⟨h, _⟩ | ⟨g, cap, cur, h, _, hle, _⟩
  · simp only [Value.slice.injEq] at h; omega
  · simp only [Value.slice.injEq] at h; omega
theorem readPS_ok : readPS.OK Tryz.prog := by
  refine Spec.of_fn (Γ := inΓ) inΓ_ok ?_
  rintro xs Hs Rs hl1 hl2 ⟨u, bs, R, rfl, rfl, hRd, hby, hlen⟩
  have e0 : Hs = [] := List.length_eq_zero_iff.1 hl1
  subst e0
  obtain ⟨x, y, c, rfl, hy, hR⟩ := id hRd
  refine ⟨readPW, envI [x, y, bs.length, c] false [Hl.none, Hl.none, Hl.none, Hl.none, R], fun _ _ => True, fun _ _ => 0, ?_, ⟨?_, ?_, ?_, ?_⟩, (fun _ h => nomatch h), ?_⟩
  · show [Value.slice (slP x y) ((bs.length : Int)).toNat ((c : Int)).toNat] = _
    rw [Int.toNat_natCast, Int.toNat_natCast]
  · intro r hr ho; simp [readPW] at hr; subst hr; cases ho
  · intro r hr ho; simp [readPW] at hr; subst hr; exact ⟨R, by simp, Hl.le_refl _⟩
  · simp [readPW]
  · intro r hr; simp [readPW] at hr; subst hr; trivial
  · show Nd.holds _ _ _ readPNd
    generalize hρ : envI [x, y, bs.length, c] false [Hl.none, Hl.none, Hl.none, Hl.none, R] = ρ
    have v0 : ρ.i 0 = x := by rw [← hρ]; rfl
    have v1 : ρ.i 1 = y := by rw [← hρ]; rfl
    have v2 : ρ.i 2 = bs.length := by rw [← hρ]; rfl
    have v3 : ρ.i 3 = c := by rw [← hρ]; rfl
    have w4 : ρ.h 4 = R := by rw [← hρ]; rfl
    clear hρ
    unfold readPNd
    simp only [Nd.holds, X.pre, X.rel, X.n, Src.ok, Src.len, Src.vals, true_and, and_true, if_true, Nat.mul_one, Nat.add_zero, Nat.reduceAdd, List.length_cons, List.length_nil, bT_tt, bT_ff, bT_bvar, bT_not, bT_and, bT_or, bT_ite, bT_lt, bT_le, bT_eq, bT_beq, bT_seq, bT_hB, bT_his, bT_hby, bT_hism, bT_hks, iev_lit, iev_var, iev_add, iev_sub, iev_mul, iev_wrap, iev_ite, iev_hI, iev_hP, iev_hmlen, sev_ite, sev_slit, sev_sof, sev_svar, TV.ev, SV.ev, CV.ev, List.map_cons, List.map_nil, Res.hl, cpTV, Cp.sv, Ck.cv, cpSVs, Cp.len, Ck.len, newHs_zero, newHs_one, roots_ne, ig0, ig1, ir0, ir1, ic1]
    rw [v0, v1, v2, v3, w4, Int.toNat_natCast, Int.toNat_natCast]
    refine ⟨⟨_, bs, R, rfl, rfl, hRd, hlen⟩, fun q1 g1 ⟨F1, hp, hF, ⟨⟨n5, n6, n7, n8⟩, _⟩⟩ q2 g2 p9 hd => ?_⟩
    have hO := clone_post hRd hp
    rw [← hF trivial] at hO
    have n5 : -1 ≤ q1.i 5 := n5
    have n6 : 0 ≤ q1.i 6 := n6
    have n7 : 0 ≤ q1.i 7 := n7
    have n8 : 0 ≤ q1.i 8 := n8
    have hcap := owB_cap hO n7 n8
    have hrd := hO.rd
    have hl := (hrd.at n5 n6 n7).1
    rw [hl] at hrd hcap
    have h12 := hd 2 1 _ _ (by decide) rfl rfl rfl
    have h12 : (Hl.one (q2.i 9).toNat _).dis (q2.h 5) := h12
    rw [g2.h 5 (by omega)] at h12
    refine ⟨[], [2, 1], rfl, rfl, ⟨⟨fun k => if k = 0 then q2.i 9 else 0, fun _ => false, fun _ => .empty, fun _ => .tuple #[], fun _ => Hl.none⟩, rfl, ⟨by show -1 ≤ q2.i 9; omega, Int.le_refl _⟩, trivial⟩, _, bs, R, rfl, rfl, hRd, (q2.i 9).toNat, q1.i 5, q1.i 6, q1.i 8, q1.h 5, ?_, ⟨n5, n6, hcap, hby, hlen, hrd, Hl.one_dis.1 h12, ?_⟩⟩
    · show Value.pointer (slP (q2.i 9) 0) = _
      rw [slP_pos p9]; rfl
    · show hls [Hl.one (q2.i 9).toNat (.cells #[.slice (slP (q2.i 5) (q2.i 6)) (q2.i 7).toNat (q2.i 8).toNat, .bool false] 203 (0, 0)), q2.h 5] = _
      rw [g2.i 5 (by omega), g2.i 6 (by omega), g2.i 7 (by omega), g2.i 8 (by omega), g2.h 5 (by omega), hl]
      rfl
theorem rd_take {H F : Hl} {a : Nat} {x y c : Int} {bs : List Int} {bad : Bool} (h : InIn H a x y c F bs bad) {m k : Nat} (hm : m + k ≤ bs.length) (c' : Nat) : RdW F (.slice (slP x (if c = m then y else y + m)) k c') ((bs.drop m).take k) := by
  obtain ⟨x', y', c2, he, hy', hr⟩ := (rd_drop h (m := m) (by omega)).w
  simp only [Value.slice.injEq] at he
  refine ⟨x', y', c', ?_, hy', ?_⟩
  · rw [he.1, List.length_take, List.length_drop, Nat.min_eq_left (by omega)]
  · rcases hr with h0 | ⟨h0, hc⟩
    · left; rw [h0]; simp
    · right
      refine ⟨h0, fun j z hz => hc j z ?_⟩
      rw [List.getElem?_take] at hz
      split at hz
      · exact hz
      · cases hz
theorem ownB_nil (F : Hl) (e : TypeId) : OwB F e (.slice none 0 0) [] := ⟨rfl, Or.inl ⟨rfl, rfl⟩⟩
end Go.Proofs.YtomdimlnggpgbaaGreatDoor
