/- Layer 8: a head into its sector, as a contract. No condition. -/
import Derived.Test.YtomdimlnggpgbaaDoorCelF
set_option linter.unusedSimpArgs false
set_option linter.unusedVariables false
set_option linter.constructorNameAsVariable false
namespace Go.Proofs.YtomdimlnggpgbaaDoor.D
open Go Go.Sx

def turnR (D : DM) (frm : Int) (h : List Int) : Int × DM :=
  if (writeR D (frm + (h.getD 0 0).tmod 2) (halfL h ++ halfL h)).1 ≠ 0 then writeR D (frm + (h.getD 0 0).tmod 2) (halfL h ++ halfL h) else syncR (writeR D (frm + (h.getD 0 0).tmod 2) (halfL h ++ halfL h)).2
def headOK (h : List Int) : Prop := h.length = 18 ∧ (0 ≤ h.getD 0 0 ∧ h.getD 0 0 < 18446744073709551616) ∧ 0 ≤ h.getD 1 0 ∧ h.getD 1 0 < 18446744073709551616
def turnS : Sx.Spec where
  fn := 78
  own := [.link 0 0]
  rd := [0]
  res := [.one (.int .i64)]
  pre := fun xs Hs Rs => ∃ p h H R dp sl L D, xs = [p, .agg (hdV h).toArray] ∧ Hs = [H] ∧ Rs = [R] ∧ LogRd R p dp sl L ∧ DiskAt H dp D ∧ headOK h
  post := fun xs Hs Rs v Hs' F => ∃ p h H R dp sl L D H', xs = [p, .agg (hdV h).toArray] ∧ Hs = [H] ∧ Rs = [R] ∧ LogRd R p dp sl L ∧ DiskAt H dp D ∧ headOK h ∧ Hs' = [H'] ∧ DiskAt H' dp (turnR D L.frm h).2 ∧ v = .int .i64 (turnR D L.frm h).1
theorem list18 {h : List Int} (hl : h.length = 18) : ∃ a b t, h = a :: b :: t ∧ t.length = 16 := by
  match h, hl with
  | a :: b :: t, hl => exact ⟨a, b, t, rfl, by simpa using hl⟩
theorem intsOf_hdV {h : List Int} (hl : h.length = 18) : intsOf (.agg (hdV h).toArray) = h := by
  obtain ⟨a, b, t, rfl, ht⟩ := list18 hl
  show ([Value.int .u64 a, Value.int .u64 b] ++ t.map (Value.int .u8)).map (fun c => valI (some c)) = _
  rw [List.map_append, List.map_map]
  show [a, b] ++ t.map id = _
  rw [List.map_id]; rfl
theorem hdV_inj {h k : List Int} (h1 : h.length = 18) (h2 : k.length = 18) (e : Value.agg (hdV h).toArray = Value.agg (hdV k).toArray) : h = k := by
  rw [← intsOf_hdV h1, ← intsOf_hdV h2, e]
theorem rowOK_hdV {h : List Int} (hl : h.length = 18) : rowOK (hdV h) (hdk.map kdOf) := by
  obtain ⟨a, b, t, rfl, ht⟩ := list18 hl
  exact ⟨by simp [valIs, kdOf], by simp [valIs, kdOf], rowOK_bys 16 _ ht⟩
theorem normsW_hdk (q : Env) (n : Nat) : ckNormsW n hdk q := ⟨trivial, trivial, normsW_bytes q 16 (n + 2)⟩
theorem half_pre {h : List Int} (hh : headOK h) : halfS.pre [.agg (hdV h).toArray] [] [] := by
  obtain ⟨c, _, _, ec⟩ := row_rep hdk 0 (hdV h) ⟨fun _ => 0, fun _ => false, fun _ => .empty, fun _ => .tuple #[], fun _ => Hl.none⟩ (rowOK_hdV hh.1)
  refine ⟨⟨c, ⟨normsW_hdk c 0, trivial⟩, ?_⟩, ?_⟩
  · show [Value.agg (hdV h).toArray] = [Value.agg ((ckCVs 0 hdk).map (CV.ev c)).toArray]
    rw [ec]
  · show (0 ≤ (intsOf (.agg (hdV h).toArray)).getD 0 0 ∧ (intsOf (.agg (hdV h).toArray)).getD 0 0 < _) ∧ 0 ≤ (intsOf (.agg (hdV h).toArray)).getD 1 0 ∧ (intsOf (.agg (hdV h).toArray)).getD 1 0 < _
    rw [intsOf_hdV hh.1]; exact hh.2
theorem halfL_length {h : List Int} (hl : h.length = 18) : (halfL h).length = 32 := by
  unfold halfL be8
  simp [hl]
def turnNd : Nd := .ext (.alloc 21) (.and (.pre (.call 2 22 [.sv (.agg (ckCVs 1 ([Ck.int .u64, Ck.int .u64] ++ List.replicate 16 (Ck.int .u8))))] [] [])) (.ext (.call 2 22 [.sv (.agg (ckCVs 1 ([Ck.int .u64, Ck.int .u64] ++ List.replicate 16 (Ck.int .u8))))] [] []) (.ext (.alloc 54) (.and (.e (.le (.lit 0) (.var 0))) (.and (.e (.his 20 (.var 0) (.lit 0) 0 .ptr)) (.and (.e (.his 20 (.var 0) (.lit 1) 0 (.int .i64))) (.and (.pre (.grow 55 5 1 1 (ckCVs 22 (List.replicate 32 (Ck.int .u8))) 32 32 (.cvs (ckCVs 22 (List.replicate 32 (Ck.int .u8))) 32))) (.ext (.grow 55 5 1 1 (ckCVs 22 (List.replicate 32 (Ck.int .u8))) 32 32 (.cvs (ckCVs 22 (List.replicate 32 (Ck.int .u8))) 32)) (.and (.pre (.call 0 57 [.sv (.one (.hptr (.hP 20 (.var 0) (.lit 0) 0 0) (.hP 20 (.var 0) (.lit 0) 0 1))), .sv (.one (.int .i64 (.wrap .i64 (.add (.hI 20 (.var 0) (.lit 1) 0) (.wrap .i64 (.rem (.var 1) (.lit 2))))))), .sv (.one (.sl (.var 55) (.lit 0) (.lit 64) (.var 56)))] [.hp 19 [] [.hP 20 (.var 0) (.lit 0) 0 0] []] [.hp 55 [] [.var 55] []])) (.ext (.call 0 57 [.sv (.one (.hptr (.hP 20 (.var 0) (.lit 0) 0 0) (.hP 20 (.var 0) (.lit 0) 0 1))), .sv (.one (.int .i64 (.wrap .i64 (.add (.hI 20 (.var 0) (.lit 1) 0) (.wrap .i64 (.rem (.var 1) (.lit 2))))))), .sv (.one (.sl (.var 55) (.lit 0) (.lit 64) (.var 56)))] [.hp 19 [] [.hP 20 (.var 0) (.lit 0) 0 0] []] [.hp 55 [] [.var 55] []]) (.and (.imp (.not (.eq (.var 57) (.lit 0))) (.post [.hp 57 [19] [.hP 20 (.var 0) (.lit 0) 0 0] [], .ro 20 [.var 0] false, .dead, .dead, .hp 55 [] [.var 55] []] (.sv (.one (.int .i64 (.var 57)))))) (.imp (.eq (.var 57) (.lit 0)) (.and (.pre (.call 1 59 [.sv (.one (.hptr (.hP 20 (.var 0) (.lit 0) 0 0) (.hP 20 (.var 0) (.lit 0) 0 1)))] [.hp 57 [19] [.hP 20 (.var 0) (.lit 0) 0 0] []] [])) (.ext (.call 1 59 [.sv (.one (.hptr (.hP 20 (.var 0) (.lit 0) 0 0) (.hP 20 (.var 0) (.lit 0) 0 1)))] [.hp 57 [19] [.hP 20 (.var 0) (.lit 0) 0 0] []] []) (.post [.hp 59 [57, 19] [.hP 20 (.var 0) (.lit 0) 0 0] [], .ro 20 [.var 0] false, .dead, .dead, .hp 55 [] [.var 55] []] (.sv (.one (.int .i64 (.var 59)))))))))))))))))))
def turnΓ : List Sx.Spec := [writeS, syncS, halfS]
theorem turnΓ_ok : ∀ t ∈ turnΓ, t.OK Tryd.prog := fun t ht => by
  simp only [turnΓ, List.mem_cons, List.mem_nil_iff, or_false] at ht
  rcases ht with rfl | rfl | rfl
  · exact writeS_ok
  · exact syncS_ok
  · exact halfS_ok
def turnW : Walk Tryd.prog turnΓ turnS.fn where
  Λ := noLoops
  args := [TP (.var 0) (.lit 0), .sv (.agg (ckCVs 1 hdk))]
  mem := [.hp 19 [] [.hP 20 (.var 0) (.lit 0) 0 0] [], .ro 20 [.var 0] false]
  nv := 21
  nd := turnNd
  ok := by kernel_rfl
theorem tg0 : turnΓ[0]? = some writeS := rfl
theorem tg1 : turnΓ[1]? = some syncS := rfl
theorem tg2 : turnΓ[2]? = some halfS := rfl
theorem tr2 : halfS.res = [.agg (u8s 32)] := rfl
theorem turnS_ok : turnS.OK Tryd.prog := by
  refine Spec.of_fn (Γ := turnΓ) turnΓ_ok ?_
  rintro xs Hs Rs hl1 hl2 ⟨p, h, H, R, dp, sl, L, D, rfl, rfl, rfl, ⟨a, rfl, hL⟩, hD, hh⟩
  obtain ⟨b0, b1, t, hht, htl⟩ := list18 hh.1
  have hg0 : h.getD 0 0 = b0 := by rw [hht]; rfl
  refine ⟨turnW, ⟨fun k => if k = 0 then (a : Int) else h.getD (k - 1) 0, fun _ => false, fun _ => .empty, fun _ => .tuple #[], fun k => if k = 19 then H else R⟩, fun _ _ => True, fun _ _ => 0, ?_, ⟨?_, ?_, ?_, ?_⟩, (fun _ h => nomatch h), ?_⟩
  · generalize hq : (⟨fun k => if k = 0 then (a : Int) else h.getD (k - 1) 0, fun _ => false, fun _ => .empty, fun _ => .tuple #[], fun k => if k = 19 then H else R⟩ : Env) = q
    show [Value.pointer (slP (q.i 0) 0), Value.agg ((ckCVs 1 hdk).map (CV.ev q)).toArray] = _
    have e0 : q.i 0 = a := by rw [← hq]; rfl
    have e1 : (ckCVs 1 hdk).map (CV.ev q) = hdV h := by
      rw [← hq, hht]
      match t, htl with
      | [a1, a2, a3, a4, a5, a6, a7, a8, a9, a10, a11, a12, a13, a14, a15, a16], _ => rfl
    rw [e0, dArg, e1]
  · intro r hr ho
    simp [turnW] at hr
    rcases hr with rfl | rfl
    · exact ⟨H, by simp, Hl.le_refl _⟩
    · cases ho
  · intro r hr ho
    simp [turnW] at hr
    rcases hr with rfl | rfl
    · cases ho
    · exact ⟨R, by simp, Hl.le_refl _⟩
  · simp [turnW, Res.own]
  · intro r hr
    simp [turnW] at hr
    rcases hr with rfl | rfl <;> trivial
  · show Nd.holds _ _ _ turnNd
    generalize hρ : (⟨fun k => if k = 0 then (a : Int) else h.getD (k - 1) 0, fun _ => false, fun _ => .empty, fun _ => .tuple #[], fun k => if k = 19 then H else R⟩ : Env) = ρ
    have v0 : ρ.i 0 = a := by rw [← hρ]; rfl
    have v1 : ρ.i 1 = b0 := by rw [← hρ, ← hg0]; rfl
    have w19 : ρ.h 19 = H := by rw [← hρ]; rfl
    have w20 : ρ.h 20 = R := by rw [← hρ]; rfl
    have eH : (ckCVs 1 hdk).map (CV.ev ρ) = hdV h := by
      rw [← hρ, hht]
      match t, htl with
      | [a1, a2, a3, a4, a5, a6, a7, a8, a9, a10, a11, a12, a13, a14, a15, a16], _ => rfl
    unfold turnNd
    simp only [Nd.holds, X.pre, X.rel, X.n, Src.ok, Src.len, Src.vals, true_and, and_true, if_true, Nat.mul_one, Nat.add_zero, Nat.reduceAdd, List.length_cons, List.length_nil, bT_tt, bT_ff, bT_bvar, bT_not, bT_and, bT_or, bT_ite, bT_lt, bT_le, bT_eq, bT_beq, bT_seq, bT_hB, bT_his, bT_hby, bT_hism, bT_hks, iev_lit, iev_var, iev_add, iev_sub, iev_mul, iev_wrap, iev_ite, iev_hI, iev_hP, iev_hmlen, sev_ite, sev_slit, sev_sof, sev_svar, TV.ev, SV.ev, CV.ev, List.map_cons, List.map_nil, Res.hl, cpTV, Cp.sv, Ck.cv, cpSVs, Cp.len, Ck.len, newHs_zero, newHs_one, roots_ne, tg0, tg1, tg2, fr0, fr1, tr2]
    intro q1 g1 _
    have t0 : Int.toNat 0 = 0 := rfl
    have t1 : Int.toNat 1 = 1 := rfl
    have t64 : Int.toNat 64 = 64 := rfl
    obtain ⟨da, s, m, es, clock, hdp, hDi⟩ := id hD
    have c0 : R.cell a 0 = some dp := by rw [hL.cell]; rfl
    have c1 : R.cell a 1 = some (.int .i64 L.frm) := by rw [hL.cell]; rfl
    obtain ⟨f0, f1⟩ := hL.1.frm
    have ep : Value.pointer (slP (valP (R.cell a 0) 0) (valP (R.cell a 0) 1)) = dp := by rw [c0, hdp]; exact dArg da
    have wk : valIs (R.cell a 0) Kd.ptr = true := by rw [c0, hdp]; rfl
    have wk1 : valIs (R.cell a 1) (Kd.int .i64) = true := by rw [c1]; rfl
    have ⟨hb0, hb1⟩ : 0 ≤ b0 ∧ b0 < 18446744073709551616 := by rw [← hg0]; exact hh.2.1
    have r0 := Int.tmod_nonneg 2 hb0
    have r1 := Int.tmod_lt_of_pos b0 (by decide : (0 : Int) < 2)
    have ei : IntKind.i64.wrap (valI (R.cell a 1) + IntKind.i64.wrap (b0.tmod 2)) = L.frm + (h.getD 0 0).tmod 2 := by
      rw [c1, hg0]
      show IntKind.i64.wrap (L.frm + IntKind.i64.wrap (b0.tmod 2)) = _
      rw [wrap_i64 (n := b0.tmod 2) (by omega) (by omega)]
      exact wrap_i64 (by omega) (by omega)
    have e1 : (ckCVs 1 ([Ck.int IntKind.u64, Ck.int IntKind.u64] ++ List.replicate 16 (Ck.int IntKind.u8))).map (CV.ev q1) = hdV h := by
      rw [← eH]
      exact CV.agreeL (g1.mono (by decide)) _ (ckCVs_upto hdk 1)
    rw [e1]
    refine ⟨half_pre hh, fun q2 g2 ⟨F2, hp2, _, _⟩ q3 g3 _ => ?_⟩
    have hp2 : Value.agg (List.map (CV.ev q2) (ckCVs 22 (u8s 32))).toArray = Value.agg (bys (halfL (intsOf (.agg (hdV h).toArray)))).toArray := hp2
    rw [intsOf_hdV hh.1] at hp2
    have hp2 : List.map (CV.ev q2) (ckCVs 22 (u8s 32)) = bys (halfL h) := by simpa using hp2
    have e3 : List.map (CV.ev q3) (ckCVs 22 (List.replicate 32 (Ck.int IntKind.u8))) = bys (halfL h) := by
      rw [← hp2]
      exact CV.agreeL (g3.mono (by decide)) _ (ckCVs_upto (u8s 32) 22)
    have G3 : Agree 21 ρ q3 := (g1.trans (g2.mono (by omega))).trans (g3.mono (by omega))
    rw [e3, G3.i 0 (by omega), v0, G3.h 20 (by omega), w20, Int.toNat_natCast, t0, t1]
    refine ⟨by omega, wk, wk1, ⟨by omega, by decide, by decide⟩, fun q4 g4 ⟨p55, p56, hO, _⟩ => ?_⟩
    have G4 : Agree 21 ρ q4 := G3.trans (g4.mono (by omega))
    have hbl : (halfL h ++ halfL h).length = 64 := by rw [List.length_append, halfL_length hh.1]
    have hO : OwB (q4.h 55) 5 (.slice (slP (q4.i 55) 0) (Int.toNat 64) (q4.i 56).toNat) (halfL h ++ halfL h) := by
      unfold OwB
      rw [hbl, bys_append]; exact hO
    rw [iev_rem, iev_var, iev_lit, G4.i 0 (by omega), v0, G4.i 1 (by omega), v1, G4.h 20 (by omega), w20, G4.h 19 (by omega), w19, Int.toNat_natCast, ep, ei]
    refine ⟨⟨dp, _, _, halfL h ++ halfL h, H, _, D, rfl, rfl, rfl, hD, hO.rd⟩, fun q5 g5 ⟨F, ⟨p', i', u', bs', H', R', D', H2, hx, hH, hR, hD', hrd', hH2, hD2, hv⟩, _, _⟩ => ?_⟩
    cases hx
    cases hH
    cases hR
    have e := hD'.uniq hD
    subst e
    have e := hrd'.uniq hO.rd
    subst e
    simp only [Value.int.injEq, true_and, List.cons.injEq, and_true] at hv hH2
    rw [← hH2] at hD2
    have G5 : Agree 21 ρ q5 := G4.trans (g5.mono (by omega))
    have out : ∀ (q' : Env) (n : Nat) (vs : List Nat) (t : Mem) (r : Int × DM), turnR D' L.frm h = r → DiskAt (q'.h n) dp r.2 → q'.i n = r.1 →
        postOf turnS [.pointer (some ⟨a, 0, none⟩), .agg (hdV h).toArray] [H] [R] q' (.hp n vs [.hP 20 (.var 0) (.lit 0) 0 0] [] :: t) (.sv (.one (.int .i64 (.var n)))) := by
      intro q' n vs t r hr h1 h2 _
      refine ⟨[[0]], [], rfl, rfl, ⟨⟨fun _ => q'.i n, fun _ => false, fun _ => .empty, fun _ => .tuple #[], fun _ => Hl.none⟩, rfl, trivial, trivial⟩, _, h, H, R, dp, sl, L, D', _, rfl, rfl, rfl, ⟨a, rfl, hL⟩, hD, hh, rfl, ?_, ?_⟩
      · show DiskAt (hls [q'.h n]) _ _
        rw [hls_one, hr]; exact h1
      · show Value.int .i64 (q'.i n) = _
        rw [h2, hr]
    rw [G5.i 0 (by omega), v0, G5.h 20 (by omega), w20, Int.toNat_natCast, ep]
    refine ⟨fun hne => out q5 57 _ _ _ ?_ hD2 hv, fun heq => ⟨⟨dp, _, _, rfl, rfl, hD2⟩, fun q6 g6 ⟨F, ⟨p', H', D2, H3, hx, hH, hD3, hH3, hD4, hv3⟩, _, _⟩ => ?_⟩⟩
    · unfold turnR
      rw [if_pos (by rw [← hv]; exact hne)]
    · cases hx
      cases hH
      have e := hD3.uniq hD2
      subst e
      simp only [Value.int.injEq, true_and, List.cons.injEq, and_true] at hv3 hH3
      rw [← hH3] at hD4
      refine out q6 59 _ _ _ ?_ hD4 hv3
      unfold turnR
      rw [if_neg (by rw [← hv, heq]; simp)]
end Go.Proofs.YtomdimlnggpgbaaDoor.D
