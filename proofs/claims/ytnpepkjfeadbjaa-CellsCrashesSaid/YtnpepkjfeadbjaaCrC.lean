/- Layer 8: law08.CellsCrashes answers true, as a contract. Condition: bytes below 256. -/
import Derived.Test.YtnpepkjfeadbjaaCrB
import Derived.Test.YtnpepkjfeadbjaaCelZ
set_option linter.unusedSimpArgs false
set_option linter.unusedVariables false
set_option linter.constructorNameAsVariable false
namespace Go.Proofs.Ytnpepkjfeadbjaa
open Go Go.Sx

def dQ (q : Env) : Value := .pointer (slP (q.i 12) (q.i 13))
def lQ (q : Env) : Value := .pointer (slP (q.i 40) (q.i 41))
def stkQ (q : Env) (n : Nat) : Value := .agg (List.map (CV.ev q) (ckCVs n ([Ck.int .u64] ++ List.replicate 16 (Ck.int .u8) ++ [Ck.sl]))).toArray
def crInv (rows : List (List Value)) (fate : List Int) : Nat → Env → Prop
  | 0, q => ∃ (i : Nat) (D : DM) (s : Nat), q.i 42 = i ∧ i ≤ rows.length ∧ s ≤ i ∧ DiskAt (q.h 43) (dQ q) D ∧ LogAt (q.h 44) (lQ q) (dQ q) (openL D 3 25) (openB D 3 25) ∧ Torn D 3 25 (fateAt fate 0) s
  | 1, q => ∃ (D E : DM) (s : Nat) (all nt bs : List Int) (L : LM) (sl : Value), DiskAt (q.h 43) (dQ q) D ∧ Torn D 3 25 (fateAt fate 0) s ∧ DiskAt (q.h 303) (dQ q) E ∧ E.ok ∧ E.loose.length ≤ 1000000 ∧ LogAt (q.h 304) (lQ q) (dQ q) L bs ∧ bs.length ≤ 1048576 ∧ 0 ≤ L.serial ∧
      stkQ q 320 = stV ((s : Int) + 1) nt sl ∧ nt.length = 16 ∧ RdB (q.h 345) sl all ∧ Ends D E 3 25 fate s all nt (q.i 300) L.over
  | _, q => ∃ (D E : DM) (s : Nat) (all nt : List Int) (sl : Value), DiskAt (q.h 43) (dQ q) D ∧ Torn D 3 25 (fateAt fate 0) s ∧ DiskAt (q.h 403) (dQ q) E ∧ E.ok ∧ E.loose.length ≤ 1000000 ∧
      stkQ q 320 = stV ((s : Int) + 1) nt sl ∧ nt.length = 16 ∧ RdB (q.h 345) sl all ∧ ∃ over, Ends D E 3 25 fate s all nt (q.i 300) over ∧ q.i 300 ≠ 4
def crM1 : List CV := [.int .u64 (.wrap .u64 (.add (.var 51) (.lit 1)))] ++ ckCVs 76 (List.replicate 16 (Ck.int .u8)) ++ [.sl (.var 95) (.lit 0) (.add (.var 70) (.hP 8 (.var 0) (.add (.var 1) (.mul (.var 42) (.lit 4))) 3 2)) (.var 96)]
def crA1 : List As := ([⟨300, 0, .int .i64 (.var 113)⟩] : List As) ++ (mLd 76 (ckCVs 320 ([Ck.int .u64] ++ List.replicate 16 (Ck.int .u8) ++ [Ck.sl])) crM1)
def crM2 : List CV := [.int .u64 (.wrap .u64 (.add (.var 51) (.lit 1)))] ++ ckCVs 52 (List.replicate 16 (Ck.int .u8)) ++ [.sl (.lit (-1)) (.lit 0) (.lit 0) (.lit 0)]
def crA2 : List As := ([⟨300, 0, .int .i64 (.var 76)⟩] : List As) ++ (mLd 76 (ckCVs 320 ([Ck.int .u64] ++ List.replicate 16 (Ck.int .u8) ++ [Ck.sl])) crM2)
theorem crg0 : crΓ[0]? = some newS := rfl
theorem crg1 : crΓ[1]? = some openS := rfl
theorem crg2 : crΓ[2]? = some overS := rfl
theorem crg3 : crΓ[3]? = some appendS := rfl
theorem crg4 : crΓ[4]? = some clearS := rfl
theorem crg5 : crΓ[5]? = some awakeS := rfl
theorem crg6 : crΓ[6]? = some fewS := rfl
theorem crg7 : crΓ[7]? = some noteS := rfl
theorem crg8 : crΓ[8]? = some fuseS := rfl
theorem crg9 : crΓ[9]? = some crashS := rfl
theorem crg10 : crΓ[10]? = some stateS := rfl
theorem crg11 : crΓ[11]? = some sameS := rfl
theorem crr8 : fuseS.res = [] := rfl
set_option maxRecDepth 20000 in
set_option maxHeartbeats 4000000 in
theorem crashesS_ok : crashesS.OK Try.prog := by
  refine Spec.of_fn (Γ := crΓ) crΓ_ok ?_
  rintro xs Hs Rs hl1 hl2 ⟨v, u, R, R2, rows, fate, rfl, rfl, hRd, hops, hFate, hFb⟩
  have e0 : Hs = [] := List.length_eq_zero_iff.1 hl1
  subst e0
  obtain ⟨x, y, c, rfl, hy, hrows⟩ := id hRd
  obtain ⟨fx, fy, fc, rfl, hfy, hfrd⟩ := id hFate
  refine ⟨crashesW, envI [x, y, rows.length, c, fx, fy, fate.length, fc] false [Hl.none, Hl.none, Hl.none, Hl.none, Hl.none, Hl.none, Hl.none, Hl.none, R, R2], crInv rows fate, fun _ q => (rows.length - q.i 42).toNat, ?_, ⟨?_, ?_, ?_, ?_⟩, (fun _ h => nomatch h), ?_⟩
  · show [Value.slice (slP x y) ((rows.length : Int)).toNat ((c : Int)).toNat, Value.slice (slP fx fy) ((fate.length : Int)).toNat ((fc : Int)).toNat] = _
    rw [Int.toNat_natCast, Int.toNat_natCast, Int.toNat_natCast, Int.toNat_natCast]
  · intro r hr ho; simp [crashesW] at hr; rcases hr with rfl | rfl <;> cases ho
  · intro r hr ho; simp [crashesW] at hr
    rcases hr with rfl | rfl
    · exact ⟨R, by simp, Hl.le_refl _⟩
    · exact ⟨R2, by simp, Hl.le_refl _⟩
  · simp [crashesW, Res.own]
  · intro r hr; simp [crashesW] at hr; rcases hr with rfl | rfl <;> trivial
  · show Nd.holds _ _ _ crashesNd
    generalize hρ : envI [x, y, rows.length, c, fx, fy, fate.length, fc] false [Hl.none, Hl.none, Hl.none, Hl.none, Hl.none, Hl.none, Hl.none, Hl.none, R, R2] = ρ
    have v0 : ρ.i 0 = x := by rw [← hρ]; rfl
    have v1 : ρ.i 1 = y := by rw [← hρ]; rfl
    have v2 : ρ.i 2 = rows.length := by rw [← hρ]; rfl
    have v4 : ρ.i 4 = fx := by rw [← hρ]; rfl
    have v5 : ρ.i 5 = fy := by rw [← hρ]; rfl
    have v6 : ρ.i 6 = fate.length := by rw [← hρ]; rfl
    have v7 : ρ.i 7 = fc := by rw [← hρ]; rfl
    have w8 : ρ.h 8 = R := by rw [← hρ]; rfl
    have w9 : ρ.h 9 = R2 := by rw [← hρ]; rfl
    have yes : ∀ (q : Env) (mem : Mem) (e : E), bev q e = true → postOf crashesS [.slice (slP x y) rows.length c, .slice (slP fx fy) fate.length fc] [] [R, R2] q mem (.sv (.one (.bool e))) := fun q mem e he _ =>
      ⟨[], [], rfl, rfl, ⟨⟨fun _ => 0, fun _ => true, fun _ => .empty, fun _ => .tuple #[], fun _ => Hl.none⟩, by show Value.bool (bev q e) = .bool true; rw [he], trivial, trivial⟩, by show Value.bool (bev q e) = .bool true; rw [he]⟩
    unfold crashesNd
    simp only [Nd.holds, X.pre, X.rel, X.n, Src.ok, Src.len, Src.vals, true_and, and_true, if_true, Nat.mul_one, Nat.add_zero, Nat.reduceAdd, List.length_cons, List.length_nil, bT_tt, bT_ff, bT_bvar, bT_not, bT_and, bT_or, bT_ite, bT_lt, bT_le, bT_eq, bT_beq, bT_seq, bT_hB, bT_his, bT_hby, bT_hism, bT_hks, iev_lit, iev_var, iev_add, iev_sub, iev_mul, iev_wrap, iev_ite, iev_hI, iev_hP, iev_hmlen, sev_ite, sev_slit, sev_sof, sev_svar, TV.ev, SV.ev, CV.ev, List.map_cons, List.map_nil, Res.hl, cpTV, Cp.sv, Ck.cv, cpSVs, Cp.len, Ck.len, newHs_zero, newHs_one, roots_ne, iev_rem, crg0, crg1, crg2, crg3, crg4, crg5, crg6, crg7, crg8, crg9, crg10, crg11, cr0, cr1, onr2, cr2, pnr4, ar0, gr8, pnr7, gr7, onr8, fr0, pnr11, pnr12, crr8, onr10, onr11, onr12, onr13, cc0, cc1, ac1, onc11]
    refine ⟨rfl, fun q1 g1 ⟨F1, hp1, _, _⟩ => ?_⟩
    have hb1 : q1.b 10 = true := by
      have h : Value.bool (q1.b 10) = .bool true := hp1
      simpa using h
    have ec : (ρ.i 3).toNat = c := by rw [← hρ]; exact Int.toNat_natCast c
    rw [hb1, g1.i 0 (by omega), v0, g1.i 1 (by omega), v1, g1.i 2 (by omega), v2, g1.h 8 (by omega), w8, g1.i 3 (by omega), ec, Int.toNat_natCast]
    refine ⟨fun _ => ⟨⟨_, R, rows, rfl, rfl, hRd⟩, fun q2 g2 ⟨F2, ⟨u2, Rb, rows2, b2, hx2, hR2, hRd2, hv2, hb2⟩, _, _⟩ => ?_⟩, fun h => absurd rfl h⟩
    have hlen40 : q2.b 11 = true → rows.length ≤ 40 := by
      intro h7
      have e1 : u2 = .slice (slP x y) rows.length c := by simpa using hx2.symm
      subst e1
      obtain ⟨x', y', c', he, _⟩ := hRd2
      simp only [Value.slice.injEq] at he
      have hb : b2 = true := by
        have h : Value.bool (q2.b 11) = .bool b2 := hv2
        rw [h7] at h
        simpa using h.symm
      rw [he.2.1]; exact hb2 hb
    have P2 : Agree 10 ρ q2 := g1.trans (g2.mono (by omega))
    have awk : ∀ (q' : Env) (n : Nat) {F : Hl}, awakeS.post [] [] [] (Value.bool (bev q' (E.bvar n))) [] F → bev q' (E.bvar n) = true := by
      intro q' n F h
      have h : Value.bool (bev q' (E.bvar n)) = .bool true := h
      simpa using h
    refine ⟨fun h11 => ?_, fun _ => ⟨rfl, fun q3 g3 ⟨F3, hp3, _, _⟩ => yes q3 _ _ (awk _ _ hp3)⟩⟩
    have hlen40 := hlen40 h11
    rw [P2.i 6 (by omega), v6]
    refine ⟨by omega, fun _ => ⟨rfl, fun q3 g3 ⟨F3, hp3, _, _⟩ => yes q3 _ _ (awk _ _ hp3)⟩, fun _ => ⟨⟨30, rfl⟩, fun q3 g3 ⟨F3, ⟨n3, hx3, hD3⟩, hF3, _⟩ => ?_⟩⟩
    have hx3 : 30 = n3 := by simpa using hx3
    subst hx3
    have hF3 := hF3 trivial
    subst hF3
    have P3 : Agree 10 ρ q3 := P2.trans (g3.mono (by omega))
    have hT3 : Torn (newD 30) 3 25 (fateAt fate 0) 0 := newD_torn ⟨by decide, by decide⟩ (by decide) (by decide) _
    refine ⟨⟨_, 3, _, _, _, rfl, rfl, hD3⟩, fun q4 g4 ⟨F4, hp4, hF4, _⟩ => ?_⟩
    have hF4 := hF4 trivial
    obtain ⟨pv, hD4, hv4, hl4, _⟩ := open_post hD3 hp4
    have hoe : openE (newD 30) 3 25 = 0 := hT3.mir.openE
    have hl4 := hl4 hoe
    rw [hoe] at hv4
    simp only [Value.tuple.injEq, Array.mk.injEq, List.cons.injEq, Value.int.injEq, true_and, and_true] at hv4
    obtain ⟨rfl, h16⟩ := hv4
    rw [← hF4] at hl4
    rw [h16]
    have P4 : Agree 10 ρ q4 := P3.trans (g4.mono (by omega))
    refine ⟨fun h => absurd rfl h, fun _ => ⟨⟨0, newD 30, 0, rfl, Nat.zero_le _, Nat.le_refl _, ?_, ?_, hT3⟩, fun q g ⟨i, D, s, e42, hi, hsi, hD, hL, hT⟩ => ?_⟩⟩
    · show DiskAt (q4.h 14) (.pointer (slP (q4.i 12) (q4.i 13))) _
      rw [g4.i 12 (by omega), g4.i 13 (by omega)]; exact hD4
    · show LogAt (q4.h 15) (.pointer (slP (q4.i 14) (q4.i 15))) (.pointer (slP (q4.i 12) (q4.i 13))) _ _
      rw [g4.i 12 (by omega), g4.i 13 (by omega)]; exact hl4
    have P : Agree 10 ρ q := P4.trans (g.mono (by omega))
    rw [P.i 0 (by omega), v0, P.i 1 (by omega), v1, P.i 2 (by omega), v2, P.h 8 (by omega), w8, e42]
    refine ⟨by omega, fun hlt => ?_, fun _ => yes q _ _ rfl⟩
    have hir : i < rows.length := by omega
    obtain ⟨row, hrow⟩ : ∃ r, rows[i]? = some r := ⟨_, List.getElem?_eq_getElem hir⟩
    rcases hrows with h | ⟨hx0, hr⟩
    · subst h; cases hir
    obtain ⟨b, k, m, oi, u, rfl, hm, hoi, hrd, hbb, hbl⟩ := hops row (List.mem_of_getElem? hrow)
    obtain ⟨hkk, hc⟩ := hr i _ hrow
    have hat : (y + (i : Int) * 4).toNat = y.toNat + i * opK.length := by show _ = y.toNat + i * 4; omega
    have c0 : R.cell x.toNat (y + (i : Int) * 4).toNat = some (.int .u8 k) := by rw [hat]; exact hc 0 _ rfl
    have c1 : R.cell x.toNat ((y + (i : Int) * 4).toNat + 1) = some (.int .u8 m) := by rw [hat]; exact hc 1 _ rfl
    have c2 : R.cell x.toNat ((y + (i : Int) * 4).toNat + 2) = some (.int .i64 oi) := by rw [hat]; exact hc 2 _ rfl
    have c3 : R.cell x.toNat ((y + (i : Int) * 4).toNat + 3) = some u := by rw [hat]; exact hc 3 _ rfl
    obtain ⟨hsl, hu2, hcb, _⟩ := RdW.parts hrd
    have hsl3 : valIs (some u) .slice = true := by obtain ⟨a, l, c, rfl⟩ := hsl; rfl
    rw [c0, c1, c2, c3]
    have hM := hT.mir
    have hsz1 : ((openB D 3 25).length : Int) ≤ 64 * (25 - 2) := hM.size.1
    have hsz2 : (openB D 3 25).length ≤ 1048576 := hM.size.2
    have hn16 : (openL D 3 25).note.length = 16 := hM.note16
    have hser : (openL D 3 25).serial = s := hT.ser
    have hser0 : 0 ≤ (openL D 3 25).serial := by rw [hser]; omega
    refine ⟨hx0, hy, by omega, rfl, rfl, rfl, hsl3, fun q5 g5 _ => ?_⟩
    have keep : ∀ q' : Env, Agree 50 q q' → q'.i 0 = x ∧ q'.i 1 = y ∧ q'.i 42 = i ∧ q'.h 8 = R ∧ dQ q' = dQ q ∧ lQ q' = lQ q ∧ q'.h 43 = q.h 43 ∧ q'.h 44 = q.h 44 ∧ q'.h 9 = R2 ∧ q'.i 4 = fx ∧ q'.i 5 = fy ∧ q'.i 6 = fate.length := fun q' a =>
      ⟨by rw [a.i 0 (by omega), P.i 0 (by omega), v0], by rw [a.i 1 (by omega), P.i 1 (by omega), v1], by rw [a.i 42 (by omega), e42], by rw [a.h 8 (by omega), P.h 8 (by omega), w8], by unfold dQ; rw [a.i 12 (by omega), a.i 13 (by omega)], by unfold lQ; rw [a.i 40 (by omega), a.i 41 (by omega)], a.h 43 (by omega), a.h 44 (by omega),
       by rw [a.h 9 (by omega), P.h 9 (by omega), w9], by rw [a.i 4 (by omega), P.i 4 (by omega), v4], by rw [a.i 5 (by omega), P.i 5 (by omega), v5], by rw [a.i 6 (by omega), P.i 6 (by omega), v6]⟩
    have hdq : ∀ q' : Env, Agree 50 q q' → Value.pointer (slP (q'.i 12) (q'.i 13)) = dQ q := fun q' a => (keep q' a).2.2.2.2.1
    have hlq : ∀ q' : Env, Agree 50 q q' → Value.pointer (slP (q'.i 40) (q'.i 41)) = lQ q := fun q' a => (keep q' a).2.2.2.2.2.1
    have hfs : ∀ q' : Env, Agree 50 q q' → Value.slice (slP (q'.i 4) (q'.i 5)) (q'.i 6).toNat (q'.i 7).toNat = Value.slice (slP fx fy) fate.length fc := fun q' a => by
      obtain ⟨_, _, _, _, _, _, _, _, _, k4, k5, k6⟩ := keep q' a
      rw [k4, k5, k6, a.i 7 (by omega), P.i 7 (by omega), v7, Int.toNat_natCast, Int.toNat_natCast]
    obtain ⟨k0, k1, k42, k8, kd, kl, k43, k44, k9, k4, k5, k6⟩ := keep q5 g5
    rw [hlq q5 g5, k44]
    refine ⟨state_pre hL hsz2, fun q6 g6 ⟨F6, hp6, hF6, hn6⟩ => fun q7 g7 _ => fun q8 g8 _ => ?_⟩
    obtain ⟨sl6, hv6, hO6⟩ := state_post hL hp6
    have hF6 := hF6 trivial
    have G8 : Agree 50 q q8 := (g5.trans (g6.mono (by omega))).trans ((g7.mono (by omega)).trans (g8.mono (by omega)))
    have st6 : stV (q6.i 51) ((List.range 16).map fun k => q6.i (52 + k)) (.slice (slP (q6.i 68) (q6.i 69)) (q6.i 70).toNat (q6.i 71).toNat) = stV (openL D 3 25).serial (openL D 3 25).note sl6 := hv6
    obtain ⟨i51, hn51, hs51⟩ := stV_inj rfl hn16 st6
    rw [← hF6, ← hs51] at hO6
    obtain ⟨⟨_, _, _, _, _, _, _, _, _, _, _, _, _, _, _, _, _, ⟨n68, n69, n70, n71⟩, _⟩, _⟩ := hn6
    have n69 : 0 ≤ q6.i 69 := n69
    have n70 : 0 ≤ q6.i 70 := n70
    obtain ⟨e70, _⟩ := hO6.rd.at n68 n69 n70
    have oB6 : RdB (q6.h 51) sl6 (openB D 3 25) := by rw [← hs51]; exact hO6.rd
    have was : ∀ q', Agree 72 q6 q' → q'.i 51 = (openL D 3 25).serial ∧ stkQ q' 51 = stV (openL D 3 25).serial (openL D 3 25).note sl6 ∧ q'.h 51 = q6.h 51 ∧ List.map (CV.ev q') (ckCVs 52 (List.replicate 16 (Ck.int IntKind.u8))) = bys (openL D 3 25).note ∧ q'.i 68 = q6.i 68 ∧ q'.i 69 = q6.i 69 ∧ q'.i 70 = (openB D 3 25).length ∧ q'.i 71 = q6.i 71 := by
      intro q' a
      refine ⟨by rw [a.i 51 (by omega)]; exact i51, ?_, a.h 51 (by omega), ?_, a.i 68 (by omega), a.i 69 (by omega), by rw [a.i 70 (by omega)]; exact e70, a.i 71 (by omega)⟩
      · have e : List.map (CV.ev q') (ckCVs 51 stk) = List.map (CV.ev q6) (ckCVs 51 stk) := CV.agreeL (a.mono (by decide)) _ (ckCVs_upto stk 51)
        show Value.agg (List.map (CV.ev q') (ckCVs 51 stk)).toArray = _
        rw [e]; exact hv6
      · refine u8_ev 16 52 _ hn16 fun k hk => ?_
        rw [a.i _ (by omega), ← hn51, List.getD_eq_getElem?_getD, List.getElem?_map, List.getElem?_range hk]
        rfl
    have S8 : Agree 72 q6 q8 := g7.trans (g8.mono (by omega))
    obtain ⟨k0, k1, k42, k8, kd, kl, k43, k44, k9, k4, k5, k6⟩ := keep q8 G8
    rw [hdq q8 G8, k43, k0, k1, k42, k8, c2]
    refine ⟨⟨_, oi, _, D, rfl, rfl, hD, hoi⟩, fun q9 g9 ⟨F9, ⟨p9, n9, H9, D9, H9', hx9, hH9, hD9, hK9, hDf⟩, _, _⟩ => ?_⟩
    have hx9 : dQ q = p9 ∧ oi = n9 := by
      have h1 : [dQ q, Value.int .i64 oi] = [p9, Value.int .i64 n9] := hx9
      simpa using h1
    obtain ⟨hxa, hxb⟩ := hx9
    subst hxa hxb
    have hH9 : q.h 43 = H9 := by simpa using hH9
    subst hH9
    have e := hD.uniq hD9
    subst e
    have hK9 : q9.h 74 = H9' := by
      have h1 : [q9.h 74] = [H9'] := hK9
      simpa using h1
    rw [← hK9] at hDf
    have G9 : Agree 50 q q9 := G8.trans (g9.mono (by omega))
    have S9 : Agree 72 q6 q9 := S8.trans (g9.mono (by omega))
    obtain ⟨k0, k1, k42, k8, kd, kl, k43, k44, k9, k4, k5, k6⟩ := keep q9 G9
    rw [k0, k1, k42, k8, c0, c1]
    have ntev : ∀ (q' : Env) (n : Nat), Value.agg (List.map (CV.ev q') (ckCVs n (List.replicate 16 (Ck.int IntKind.u8)))).toArray = noteG [.int .u8 m] → List.map (CV.ev q') (ckCVs n (List.replicate 16 (Ck.int IntKind.u8))) = bys (noteL m) := by
      intro q' n h
      have h : Value.agg (List.map (CV.ev q') (ckCVs n (List.replicate 16 (Ck.int IntKind.u8)))).toArray = Value.agg (bys (noteL m)).toArray := h
      simpa using h
    have hnl : (noteL m).length = 16 := rfl
    have hnb : byteL (noteL m) := fun z hz => by have := List.eq_of_mem_replicate hz; omega
    have hs62 : s < 4611686018427387904 := by omega
    have hser62 : (openL D 3 25).serial < 4611686018427387904 := by rw [hser]; omega
    have hmost : (openL D 3 25).most = 64 * (25 - 2) := rfl
    have hDfo : (fuseD D oi).ok := fuseD_ok hM.sure.ok hoi
    refine ⟨⟨fun hk0 => ⟨note_pre _, fun q10 g10 ⟨F10, hp10, _, _⟩ => fun q11 g11 p11 => ?_⟩, fun hk1 => ?_⟩, fun ql gl hI => ?_⟩
    · -- Append
      have T11 : Agree 76 q9 q11 := g10.trans (g11.mono (by omega))
      have G11 : Agree 50 q q11 := G9.trans (T11.mono (by omega))
      have S11 : Agree 72 q6 q11 := S9.trans (T11.mono (by omega))
      have hnil := own0 (Hl.one (q11.i 92).toNat (.cells #[] 5 (0, 0))) p11 rfl
      obtain ⟨_, _, wh, _, w68, w69, w70, _⟩ := was q11 S11
      obtain ⟨sA, sB⟩ := seg_of (R := q6.h 51) (x := q6.i 68) (y := q6.i 69) (l := ((openB D 3 25).length : Int)) rfl n69 ((hO6.rd.at n68 n69 n70).2.imp (·.2) id)
      obtain ⟨tA, tB⟩ := RdW.seg hrd
      rw [w68, w69, w70, wh]
      refine ⟨⟨⟨[], hnil⟩, Int.le_refl _, sA, by unfold maxLen; omega, by omega⟩, fun q12 g12 ⟨a1, a2, a3, _⟩ => ?_⟩
      have hx12 := a3 _ hnil
      rw [sB, List.nil_append] at hx12
      have G12 : Agree 50 q q12 := G11.trans (g12.mono (by omega))
      have S12 : Agree 72 q6 q12 := S11.trans (g12.mono (by omega))
      obtain ⟨k0, k1, k42, k8, kd, kl, k43, k44, k9, k4, k5, k6⟩ := keep q12 G12
      obtain ⟨_, _, wh, _, w68, w69, w70, _⟩ := was q12 S12
      rw [k0, k1, k42, k8, c3, w70]
      rw [show Int.toNat 0 + ((openB D 3 25).length : Int).toNat = ((openB D 3 25).length : Int).toNat by omega] at hx12
      refine ⟨⟨⟨_, hx12⟩, by omega, tA, by unfold maxLen; omega, by omega⟩, fun q13 g13 ⟨b1, b2, b3, _⟩ => ?_⟩
      have hx13 := b3 _ hx12
      rw [tB, hu2, ← bys_append] at hx13
      have G13 : Agree 50 q q13 := G12.trans (g13.mono (by omega))
      obtain ⟨k0, k1, k42, k8, kd, kl, k43, k44, k9, k4, k5, k6⟩ := keep q13 G13
      rw [k0, k1, k42, k8, c1]
      refine ⟨note_pre _, fun q14 g14 ⟨F14, hp14, _, _⟩ => ?_⟩
      have G14 : Agree 50 q q14 := G13.trans (g14.mono (by omega))
      have T14 : Agree 76 q9 q14 := T11.trans ((g12.mono (by omega)).trans ((g13.mono (by omega)).trans (g14.mono (by omega))))
      obtain ⟨k0, k1, k42, k8, kd, kl, k43, k44, k9, k4, k5, k6⟩ := keep q14 G14
      have nt14 := ntev q14 97 hp14
      rw [hlq q14 G14, k0, k1, k42, k8, c3, sl_parts hsl, nt14, k44, T14.h 74 (by omega)]
      refine ⟨append_pre hL hDf hrd hsz2 hnl hser0, fun q15 g15 ⟨F15, hp15, _, _⟩ => ?_⟩
      obtain ⟨H', HD', hK, hDa, hLa, hva⟩ := append_post hL hDf hrd hp15
      have hK : q15.h 113 = H' ∧ q15.h 114 = HD' := by
        have h1 : [q15.h 113, q15.h 114] = [H', HD'] := hK
        simpa using h1
      rw [← hK.1] at hLa
      rw [← hK.2] at hDa
      obtain ⟨z1, z2, z3⟩ := hT.appendEnds hs62 (b := b) (nt := noteL m) (by decide) hnl hbb hnb hoi
      obtain ⟨z4, z5⟩ := appendR_size (D := fuseD D oi) (L := openL D 3 25) (b := b) (nt := noteL m) hsz2 (by rw [hmost]; decide) hser0
      have G15 : Agree 50 q q15 := G14.trans (g15.mono (by omega))
      have T15 : Agree 76 q9 q15 := T14.trans (g15.mono (by omega))
      have S15 : Agree 72 q6 q15 := S9.trans (T15.mono (by omega))
      have hva : q15.i 113 = (appendR (fuseD D oi) (openL D 3 25) (openB D 3 25) b (noteL m)).e := by simpa using hva
      show crInv rows fate 1 (assign q15 crA1 [(303, some 114), (304, some 113), (345, some 95)])
      have hg : goodA 76 crA1 [(303, some 114), (304, some 113), (345, some 95)] = true := by kernel_rfl
      have ag := assign_old (ρ := q15) hg
      have e300 : (assign q15 crA1 [(303, some 114), (304, some 113), (345, some 95)]).i 300 = q15.i 113 := rfl
      have e303 : (assign q15 crA1 [(303, some 114), (304, some 113), (345, some 95)]).h 303 = q15.h 114 := rfl
      have e304 : (assign q15 crA1 [(303, some 114), (304, some 113), (345, some 95)]).h 304 = q15.h 113 := rfl
      have e345 : (assign q15 crA1 [(303, some 114), (304, some 113), (345, some 95)]).h 345 = q15.h 95 := rfl
      have est : stkQ (assign q15 crA1 [(303, some 114), (304, some 113), (345, some 95)]) 320 = (SV.agg crM1).ev q15 :=
        assign_ag (n0 := 76) (ρ := q15) (A := crA1) (hs := [(303, some 114), (304, some 113), (345, some 95)]) (l := ckCVs 320 ([Ck.int .u64] ++ List.replicate 16 (Ck.int .u8) ++ [Ck.sl])) (m := crM1) hg (by kernel_rfl) (fun y hy => List.mem_append_right _ hy)
      generalize assign q15 crA1 [(303, some 114), (304, some 113), (345, some 95)] = qa at ag e300 e303 e304 e345 est
      have Ga : Agree 50 q qa := G15.trans (ag.mono (by omega))
      obtain ⟨_, _, _, _, kd, kl, k43, _⟩ := keep qa Ga
      refine ⟨D, _, s, openB D 3 25 ++ b, noteL m, _, _, .slice (slP (q15.i 95) 0) (openB D 3 25 ++ b).length (q15.i 96).toNat, by rw [k43, kd]; exact hD, hT, by rw [e303, kd]; exact hDa, z1, z2, by rw [e304, kd, kl]; exact hLa, z4, z5, ?_, hnl, ?_, by rw [e300, hva]; exact z3⟩
      · rw [est]
        obtain ⟨k0, k1, k42, k8, kd, kl, k43, k44, k9, k4, k5, k6⟩ := keep q15 G15
        obtain ⟨w51, _, _, _, _, _, w70, _⟩ := was q15 S15
        have nt15 : List.map (CV.ev q15) (ckCVs 76 (List.replicate 16 (Ck.int IntKind.u8))) = bys (noteL m) := by
          have a : Agree 92 q10 q15 := (g11.mono (by omega)).trans ((g12.mono (by omega)).trans ((g13.mono (by omega)).trans ((g14.mono (by omega)).trans (g15.mono (by omega)))))
          rw [CV.agreeL (a.mono (by decide)) _ (ckCVs_upto (List.replicate 16 (Ck.int IntKind.u8)) 76)]; exact ntev q10 76 hp10
        show Value.agg (List.map (CV.ev q15) crM1).toArray = _
        unfold crM1
        rw [List.map_append, List.map_append, nt15]
        show Value.agg ([Value.int .u64 (IntKind.u64.wrap (q15.i 51 + 1))] ++ bys (noteL m) ++ [Value.slice (slP (q15.i 95) 0) (q15.i 70 + valP ((q15.h 8).cell (q15.i 0).toNat ((q15.i 1 + q15.i 42 * 4).toNat + 3)) 2).toNat (q15.i 96).toNat]).toArray = _
        rw [k0, k1, k42, k8, c3, hu2, w70, w51, hser, wrap_u64 (by omega) (by omega), List.length_append, show (((openB D 3 25).length : Int) + (b.length : Int)).toNat = (openB D 3 25).length + b.length by omega]
        rfl
      · rw [e345, g15.h 95 (by omega), g15.i 95 (by omega), g15.i 96 (by omega), g14.h 95 (by omega), g14.i 95 (by omega), g14.i 96 (by omega)]
        have hx : OwB (q13.h 95) 5 (.slice (slP (q13.i 95) 0) (openB D 3 25 ++ b).length (q13.i 96).toNat) (openB D 3 25 ++ b) := by
          unfold OwB
          rw [Int.toNat_natCast, Int.toNat_natCast] at hx13
          rw [List.length_append]
          exact hx13
        exact hx.rd
    · -- Clear
      obtain ⟨k0, k1, k42, k8, kd, kl, k43, k44, k9, k4, k5, k6⟩ := keep q9 G9
      rw [hlq q9 G9, k44]
      refine ⟨clear_pre hL hDf hser0, fun q15 g15 ⟨F15, hp15, _, _⟩ => ?_⟩
      obtain ⟨H', HD', hK, hDa, hLa, hva⟩ := clear_post hL hDf hp15
      have hK : q15.h 76 = H' ∧ q15.h 77 = HD' := by
        have h1 : [q15.h 76, q15.h 77] = [H', HD'] := hK
        simpa using h1
      rw [← hK.1] at hLa
      rw [← hK.2] at hDa
      obtain ⟨z1, z2, z3⟩ := hT.clearEnds hs62 hoi
      obtain ⟨z4, z5⟩ := clearR_size (D := fuseD D oi) (L := openL D 3 25) hsz2 hser0
      have G15 : Agree 50 q q15 := G9.trans (g15.mono (by omega))
      have S15 : Agree 72 q6 q15 := S9.trans (g15.mono (by omega))
      have hva : q15.i 76 = (clearR (fuseD D oi) (openL D 3 25) (openB D 3 25)).e := by simpa using hva
      show crInv rows fate 1 (assign q15 crA2 [(303, some 77), (304, some 76), (345, none)])
      have hg : goodA 76 crA2 [(303, some 77), (304, some 76), (345, none)] = true := by kernel_rfl
      have ag := assign_old (ρ := q15) hg
      have e300 : (assign q15 crA2 [(303, some 77), (304, some 76), (345, none)]).i 300 = q15.i 76 := rfl
      have e303 : (assign q15 crA2 [(303, some 77), (304, some 76), (345, none)]).h 303 = q15.h 77 := rfl
      have e304 : (assign q15 crA2 [(303, some 77), (304, some 76), (345, none)]).h 304 = q15.h 76 := rfl
      have est : stkQ (assign q15 crA2 [(303, some 77), (304, some 76), (345, none)]) 320 = (SV.agg crM2).ev q15 :=
        assign_ag (n0 := 76) (ρ := q15) (A := crA2) (hs := [(303, some 77), (304, some 76), (345, none)]) (l := ckCVs 320 ([Ck.int .u64] ++ List.replicate 16 (Ck.int .u8) ++ [Ck.sl])) (m := crM2) hg (by kernel_rfl) (fun y hy => List.mem_append_right _ hy)
      generalize assign q15 crA2 [(303, some 77), (304, some 76), (345, none)] = qa at ag e300 e303 e304 est
      have Ga : Agree 50 q qa := G15.trans (ag.mono (by omega))
      obtain ⟨_, _, _, _, kd, kl, k43, _⟩ := keep qa Ga
      refine ⟨D, _, s, [], (openL D 3 25).note, _, _, .slice none 0 0, by rw [k43, kd]; exact hD, hT, by rw [e303, kd]; exact hDa, z1, z2, by rw [e304, kd, kl]; exact hLa, z4, z5, ?_, hn16, ⟨-1, 0, 0, by rw [slP_nil]; rfl, Int.le_refl _, Or.inl ⟨rfl, rfl⟩⟩, by rw [e300, hva]; exact z3⟩
      rw [est]
      obtain ⟨w51, _, _, wn, _, _, _, _⟩ := was q15 S15
      show Value.agg (List.map (CV.ev q15) crM2).toArray = _
      unfold crM2
      rw [List.map_append, List.map_append, wn]
      show Value.agg ([Value.int .u64 (IntKind.u64.wrap (q15.i 51 + 1))] ++ bys (openL D 3 25).note ++ [Value.slice (slP (-1) 0) (Int.toNat 0) (Int.toNat 0)]).toArray = _
      rw [w51, hser, wrap_u64 (by omega) (by omega), slP_nil]
      rfl
    · -- behind the change
      obtain ⟨D', E, s', all, nt, bs, L, sl, hD', hT', hE, hEo, hEl, hLg, hbs, hLs, hst, hnt, hrdA, hEnds⟩ := hI
      have Gl : Agree 50 q ql := G9.trans (gl.mono (by omega))
      have Sl : Agree 72 q6 ql := S9.trans (gl.mono (by omega))
      obtain ⟨k0, k1, k42, k8, kd, kl, k43, k44, k9, k4, k5, k6⟩ := keep ql Gl
      rw [kd, k43] at hD'
      have e := hD.uniq hD'
      subst e
      have es : s' = s := by
        have h1 := hT'.ser
        have h2 := hT.ser
        omega
      subst es
      clear hT'
      rw [kd] at hE
      rw [kd, kl] at hLg
      -- the end of a round: crash, open, what is there
      have back : ∀ (q' : Env) (p : Nat) (E' : DM) (s' : Nat), Agree 50 q q' → s' ≤ i + 1 → DiskAt (q'.h p) (dQ q) E' → LogAt (q'.h (p + 1)) (.pointer (slP (q'.i p) (q'.i (p + 1)))) (dQ q) (openL E' 3 25) (openB E' 3 25) → Torn E' 3 25 (fateAt fate 0) s' →
          crInv rows fate 0 (assign q' [⟨40, 0, .int .i64 (.var p)⟩, ⟨41, 0, .int .i64 (.var (p + 1))⟩, ⟨42, 0, .int .i64 (.wrap .i64 (.add (.var 42) (.lit 1)))⟩] [(43, some p), (44, some (p + 1))]) ∧ ((rows.length : Int) - (assign q' [⟨40, 0, .int .i64 (.var p)⟩, ⟨41, 0, .int .i64 (.var (p + 1))⟩, ⟨42, 0, .int .i64 (.wrap .i64 (.add (.var 42) (.lit 1)))⟩] [(43, some p), (44, some (p + 1))]).i 42).toNat < ((rows.length : Int) - i).toNat := by
        intro q' p E' s' a hs' h1 h2 h3
        have m42 : (assign q' [⟨40, 0, .int .i64 (.var p)⟩, ⟨41, 0, .int .i64 (.var (p + 1))⟩, ⟨42, 0, .int .i64 (.wrap .i64 (.add (.var 42) (.lit 1)))⟩] [(43, some p), (44, some (p + 1))]).i 42 = i + 1 := by
          show IntKind.i64.wrap (q'.i 42 + 1) = _
          rw [(keep q' a).2.2.1, wrap_i64 (by omega) (by omega)]
        refine ⟨⟨i + 1, E', s', by rw [m42]; omega, by omega, hs', ?_, ?_, h3⟩, by rw [m42]; omega⟩
        · show DiskAt (q'.h p) (.pointer (slP (q'.i 12) (q'.i 13))) E'
          rw [hdq q' a]; exact h1
        · show LogAt (q'.h (p + 1)) (.pointer (slP (q'.i p) (q'.i (p + 1)))) (.pointer (slP (q'.i 12) (q'.i 13))) _ _
          rw [hdq q' a]; exact h2
      have hsame : ∀ {R1 R2 F : Hl} {u1 u2 : Value} {b1 n1 : List Int} {s1 : Int} {K : List Hl} {bb : Bool}, n1.length = 16 → RdB R1 u1 b1 → RdB R2 u2 b1 → sameS.post [stV s1 n1 u1, stV s1 n1 u2] [] [R1, R2] (.bool bb) K F → bb = true := by
        intro R1 R2 F u1 u2 b1 n1 s1 K bb h1 h2 h3 h
        have h := same_post h1 h2 h3 h
        simpa using h
      obtain ⟨_, wst, wh, _, _, _, _, _⟩ := was ql Sl
      refine ⟨fun h4 => ?_, fun h4 => ⟨⟨by rw [hlq ql Gl]; exact over_pre hLg, fun qo go ⟨Fo, hpo, _, _⟩ => ?_⟩, fun qm gm hI2 => ?_⟩⟩
      · -- no room
        have hStay : Stays D (crashD E fate) 3 25 (fateAt fate 0) s' := by
          rcases hEnds with ⟨_, h⟩ | ⟨h, _⟩ | ⟨h, _⟩
          · exact h
          · omega
          · omega
        rw [hdq ql Gl, hfs ql Gl, k9]
        refine ⟨⟨_, _, fate, _, _, E, rfl, rfl, rfl, hE, hFate, hFb, hEl⟩, fun q20 g20 ⟨F20, ⟨p20, u20, bs20, H20, R20, D20, H20', hx20, hH20, hR20, hD20, hrd20, hK20, hDy20⟩, _, _⟩ => ?_⟩
        have hx20 : dQ q = p20 ∧ Value.slice (slP fx fy) fate.length fc = u20 := by simpa using hx20
        obtain ⟨hxa, hxb⟩ := hx20
        subst hxa hxb
        have hH20 : ql.h 303 = H20 := by simpa using hH20
        subst hH20
        have hR20 : R2 = R20 := by simpa using hR20
        subst hR20
        have e := hE.uniq hD20
        subst e
        have e := hrd20.uniq hFate
        subst e
        have hK20 : q20.h 350 = H20' := by
          have h1 : [q20.h 350] = [H20'] := hK20
          simpa using h1
        rw [← hK20] at hDy20
        have G20 : Agree 50 q q20 := Gl.trans (g20.mono (by omega))
        rw [hdq q20 G20]
        refine ⟨⟨_, 3, _, _, _, rfl, rfl, hDy20⟩, fun q21 g21 ⟨F21, hp21, hF21, _⟩ => ?_⟩
        have hF21 := hF21 trivial
        obtain ⟨pv, hD21, hv21, hl21, _⟩ := open_post hDy20 hp21
        have hoe : openE (crashD E bs20) 3 25 = 0 := hStay.1.mir.openE
        have hl21 := hl21 hoe
        rw [hoe] at hv21
        simp only [Value.tuple.injEq, Array.mk.injEq, List.cons.injEq, Value.int.injEq, true_and, and_true] at hv21
        obtain ⟨rfl, h0⟩ := hv21
        rw [← hF21] at hl21
        rw [h0]
        have hszE : (openB (crashD E bs20) 3 25).length ≤ 1048576 := hStay.1.mir.size.2
        refine ⟨fun h => absurd rfl h, fun _ => ⟨state_pre hl21 hszE, fun q22 g22 ⟨F22, hp22, hF22, _⟩ => fun q23 g23 _ => ?_⟩⟩
        obtain ⟨sl22, hv22, hO22⟩ := state_post hl21 hp22
        have hF22 := hF22 trivial
        rw [← hF22] at hO22
        have hoB : openB (crashD E bs20) 3 25 = openB D 3 25 := hStay.2.2
        have hoL : openL (crashD E bs20) 3 25 = openL D 3 25 := hStay.2.1
        rw [hoB] at hO22
        rw [hoL] at hv22
        have hv22 : stkQ q22 355 = stV (openL D 3 25).serial (openL D 3 25).note sl22 := hv22
        have now : ∀ q', Agree 376 q22 q' → stkQ q' 355 = stV (openL D 3 25).serial (openL D 3 25).note sl22 ∧ q'.h 355 = q22.h 355 := by
          intro q' a
          have e : List.map (CV.ev q') (ckCVs 355 stk) = List.map (CV.ev q22) (ckCVs 355 stk) := CV.agreeL (a.mono (by decide)) _ (ckCVs_upto stk 355)
          refine ⟨?_, a.h 355 (by omega)⟩
          show Value.agg (List.map (CV.ev q') (ckCVs 355 stk)).toArray = _
          rw [e]; exact hv22
        have G23 : Agree 50 q q23 := G20.trans ((g21.mono (by omega)).trans ((g22.mono (by omega)).trans (g23.mono (by omega))))
        have S23 : Agree 72 q6 q23 := Sl.trans ((g20.mono (by omega)).trans ((g21.mono (by omega)).trans ((g22.mono (by omega)).trans (g23.mono (by omega)))))
        have three : ∀ (q' : Env) , Agree 376 q23 q' → sameS.pre [stkQ q' 355, stkQ q' 51] [] [q'.h 355, q'.h 51] ∧ ∀ (bb : Bool) (F : Hl), sameS.post [stkQ q' 355, stkQ q' 51] [] [q'.h 355, q'.h 51] (.bool bb) [] F → bb = true := by
          intro q' a
          obtain ⟨n1, n2⟩ := now q' (g23.trans a)
          obtain ⟨_, wst, wh, _⟩ := was q' (S23.trans (a.mono (by omega)))
          rw [n1, n2, wst, wh]
          exact ⟨same_pre hn16 hn16 hO22.rd oB6, fun bb F h => hsame hn16 hO22.rd oB6 h⟩
        refine ⟨(three q23 (Agree.refl _ _)).1, fun q24 g24 ⟨F24, hp24, _, _⟩ => ?_⟩
        have hb24 : q24.b 377 = true := (three q23 (Agree.refl _ _)).2 _ _ hp24
        rw [hb24]
        refine ⟨fun _ => ⟨(three q24 (g24.mono (by omega))).1, fun q25 g25 ⟨F25, hp25, _, _⟩ => ?_⟩, fun h => absurd rfl h⟩
        have hb25 : q25.b 378 = true := (three q24 (g24.mono (by omega))).2 _ _ hp25
        rw [hb25]
        refine ⟨fun h => absurd rfl h, fun _ => back q25 352 _ s' (G23.trans ((g24.mono (by omega)).trans (g25.mono (by omega)))) (by omega) ?_ ?_ hStay.1⟩
        · rw [g25.h 352 (by omega), g24.h 352 (by omega), g23.h 352 (by omega), g22.h 352 (by omega)]; exact hD21
        · show LogAt (q25.h 353) (.pointer (slP (q25.i 352) (q25.i 353))) _ _ _
          rw [g25.h 353 (by omega), g24.h 353 (by omega), g23.h 353 (by omega), g22.h 353 (by omega), g25.i 352 (by omega), g24.i 352 (by omega), g23.i 352 (by omega), g22.i 352 (by omega), g25.i 353 (by omega), g24.i 353 (by omega), g23.i 353 (by omega), g22.i 353 (by omega)]; exact hl21
      · -- is it over?
        rw [hlq ql Gl] at hpo
        have hov : qo.b 350 = L.over := by
          have h := over_post hLg hpo
          have h : Value.bool (qo.b 350) = .bool L.over := h
          simpa using h
        have inv2 : ∀ (q' : Env) (d l : Nat), Agree 350 ql q' → DiskAt (q'.h d) (dQ q) E → crInv rows fate 2 (assign q' [] [(403, some d), (404, some l)]) := by
          intro q' d l a hd
          have hg : goodA 350 [] [(403, some d), (404, some l)] = true := rfl
          have ag := assign_old (ρ := q') hg
          have e403 : (assign q' [] [(403, some d), (404, some l)]).h 403 = q'.h d := rfl
          generalize assign q' [] [(403, some d), (404, some l)] = qa at ag e403
          have A : Agree 350 ql qa := a.trans ag
          have Ga : Agree 50 q qa := Gl.trans (A.mono (by omega))
          obtain ⟨_, _, _, _, kd, kl, k43, _⟩ := keep qa Ga
          refine ⟨D, E, s', all, nt, sl, by rw [k43, kd]; exact hD, hT, by rw [e403, kd]; exact hd, hEo, hEl, ?_, hnt, by rw [A.h 345 (by omega)]; exact hrdA, L.over, by rw [A.i 300 (by omega)]; exact hEnds, by rw [A.i 300 (by omega)]; exact h4⟩
          have e : List.map (CV.ev qa) (ckCVs 320 stk) = List.map (CV.ev ql) (ckCVs 320 stk) := CV.agreeL (A.mono (by decide)) _ (ckCVs_upto stk 320)
          show Value.agg (List.map (CV.ev qa) (ckCVs 320 stk)).toArray = _
          rw [e]; exact hst
        have Go : Agree 50 q qo := Gl.trans (go.mono (by omega))
        obtain ⟨_, _, _, k8o, kdo, klo, _⟩ := keep qo Go
        rw [go.i 300 (by omega), hov]
        rcases hEnds with ⟨h, _⟩ | ⟨h0, ho, _⟩ | ⟨h5, ho, _⟩
        · omega
        · rw [h0, ho]
          refine ⟨fun _ => ⟨fun h => absurd rfl h, fun _ => inv2 qo 303 304 go (by rw [go.h 303 (by omega)]; exact hE)⟩, fun h => absurd (Eq.mp h rfl) (by decide)⟩
        · rw [h5, ho, hlq qo Go, go.h 304 (by omega), go.h 303 (by omega), k8o]
          have hnil : RdW R (.slice (slP (-1) 0) (Int.toNat 0) (Int.toNat 0)) [] := ⟨-1, 0, 0, rfl, Int.le_refl _, Or.inl rfl⟩
          have en : Value.agg (List.map (CV.ev qo) (List.replicate 16 (CV.int IntKind.u8 (.lit 0)))).toArray = .agg (bys (List.replicate 16 0)).toArray := rfl
          rw [en]
          refine ⟨fun _ => ⟨fun _ => ⟨fun _ => ⟨append_pre hLg hE hnil hbs rfl hLs, fun qp gp ⟨Fp, hpp, _, _⟩ => ?_⟩, fun h => absurd rfl h⟩, fun h => absurd h (by decide)⟩, fun h => absurd (Eq.mpr h rfl) (by decide)⟩
          obtain ⟨H', HD', hK, hDa, hLa, hva⟩ := append_post hLg hE hnil hpp
          rw [appendR_over ho] at hDa hLa hva
          have hva : qp.i 351 = 5 := by simpa using hva
          have hK : qp.h 351 = H' ∧ qp.h 352 = HD' := by
            have h1 : [qp.h 351, qp.h 352] = [H', HD'] := hK
            simpa using h1
          rw [← hK.1] at hLa
          rw [← hK.2] at hDa
          have Gp : Agree 50 q qp := Go.trans (gp.mono (by omega))
          rw [hva, hlq qp Gp]
          refine ⟨fun _ => ⟨clear_pre hLa hDa hLs, fun qr gr ⟨Fr, hpr, _, _⟩ => ?_⟩, fun h => absurd rfl h⟩
          obtain ⟨H', HD', hK, hDb, hLb, hvb⟩ := clear_post hLa hDa hpr
          have hLo : L.over = true := ho
          rw [clearR_over (D := E) (L := L) (bs := bs) hLo] at hDb hLb hvb
          have hvb : qr.i 354 = 5 := by simpa using hvb
          have hK : qr.h 354 = H' ∧ qr.h 355 = HD' := by
            have h1 : [qr.h 354, qr.h 355] = [H', HD'] := hK
            simpa using h1
          rw [← hK.2] at hDb
          rw [hvb]
          exact ⟨fun h => absurd rfl h, fun _ => inv2 qr 355 354 (go.trans ((gp.mono (by omega)).trans (gr.mono (by omega)))) hDb⟩
      · -- crash and open
        obtain ⟨D', E', s2, all', nt', sl', hD', hT', hE', hEo', hEl', hst', hnt', hrdA', over', hEnds', hne4⟩ := hI2
        have Gm : Agree 50 q qm := Gl.trans (gm.mono (by omega))
        have Sm : Agree 72 q6 qm := Sl.trans (gm.mono (by omega))
        obtain ⟨k0, k1, k42, k8, kd, kl, k43, k44, k9, k4, k5, k6⟩ := keep qm Gm
        rw [kd, k43] at hD'
        have e := hD.uniq hD'
        subst e
        have es : s2 = s' := by
          have h1 := hT'.ser
          have h2 := hT.ser
          omega
        subst es
        clear hT'
        rw [kd] at hE'
        rw [hdq qm Gm, hfs qm Gm, k9]
        refine ⟨⟨_, _, fate, _, _, E', rfl, rfl, rfl, hE', hFate, hFb, hEl'⟩, fun q20 g20 ⟨F20, ⟨p20, u20, bs20, H20, R20, D20, H20', hx20, hH20, hR20, hD20, hrd20, hK20, hDy20⟩, _, _⟩ => ?_⟩
        have hx20 : dQ q = p20 ∧ Value.slice (slP fx fy) fate.length fc = u20 := by simpa using hx20
        obtain ⟨hxa, hxb⟩ := hx20
        subst hxa hxb
        have hH20 : qm.h 403 = H20 := by simpa using hH20
        subst hH20
        have hR20 : R2 = R20 := by simpa using hR20
        subst hR20
        have e := hE'.uniq hD20
        subst e
        have e := hrd20.uniq hFate
        subst e
        have hK20 : q20.h 410 = H20' := by
          have h1 : [q20.h 410] = [H20'] := hK20
          simpa using h1
        rw [← hK20] at hDy20
        obtain ⟨s3, hs3, hTe⟩ := hEnds'.torn
        have G20 : Agree 50 q q20 := Gm.trans (g20.mono (by omega))
        rw [hdq q20 G20]
        refine ⟨⟨_, 3, _, _, _, rfl, rfl, hDy20⟩, fun q21 g21 ⟨F21, hp21, hF21, _⟩ => ?_⟩
        have hF21 := hF21 trivial
        obtain ⟨pv, hD21, hv21, hl21, _⟩ := open_post hDy20 hp21
        have hoe : openE (crashD E' bs20) 3 25 = 0 := hTe.mir.openE
        have hl21 := hl21 hoe
        rw [hoe] at hv21
        simp only [Value.tuple.injEq, Array.mk.injEq, List.cons.injEq, Value.int.injEq, true_and, and_true] at hv21
        obtain ⟨rfl, h0⟩ := hv21
        rw [← hF21] at hl21
        rw [h0]
        have hszE : (openB (crashD E' bs20) 3 25).length ≤ 1048576 := hTe.mir.size.2
        refine ⟨fun h => absurd rfl h, fun _ => ⟨state_pre hl21 hszE, fun q22 g22 ⟨F22, hp22, hF22, _⟩ => fun q23 g23 _ => ?_⟩⟩
        obtain ⟨sl22, hv22, hO22⟩ := state_post hl21 hp22
        have hF22 := hF22 trivial
        rw [← hF22] at hO22
        have hn22 : (openL (crashD E' bs20) 3 25).note.length = 16 := hTe.mir.note16
        have hv22 : stkQ q22 415 = stV (openL (crashD E' bs20) 3 25).serial (openL (crashD E' bs20) 3 25).note sl22 := hv22
        have now : ∀ q', Agree 436 q22 q' → stkQ q' 415 = stV (openL (crashD E' bs20) 3 25).serial (openL (crashD E' bs20) 3 25).note sl22 ∧ q'.h 415 = q22.h 415 := by
          intro q' a
          have e : List.map (CV.ev q') (ckCVs 415 stk) = List.map (CV.ev q22) (ckCVs 415 stk) := CV.agreeL (a.mono (by decide)) _ (ckCVs_upto stk 415)
          refine ⟨?_, a.h 415 (by omega)⟩
          show Value.agg (List.map (CV.ev q') (ckCVs 415 stk)).toArray = _
          rw [e]; exact hv22
        have M23 : Agree 410 qm q23 := g20.trans ((g21.mono (by omega)).trans ((g22.mono (by omega)).trans (g23.mono (by omega))))
        have G23 : Agree 50 q q23 := Gm.trans (M23.mono (by omega))
        have S23 : Agree 72 q6 q23 := Sm.trans (M23.mono (by omega))
        have want : ∀ q', Agree 410 qm q' → stkQ q' 320 = stV ((s2 : Int) + 1) nt' sl' ∧ q'.h 345 = qm.h 345 := by
          intro q' a
          have e : List.map (CV.ev q') (ckCVs 320 stk) = List.map (CV.ev qm) (ckCVs 320 stk) := CV.agreeL (a.mono (by decide)) _ (ckCVs_upto stk 320)
          refine ⟨?_, a.h 345 (by omega)⟩
          show Value.agg (List.map (CV.ev q') (ckCVs 320 stk)).toArray = _
          rw [e]; exact hst'
        have nextS : ∀ (q' : Env), Agree 436 q23 q' → sameS.pre [stkQ q' 415, stkQ q' 320] [] [q'.h 415, q'.h 345] ∧ ∀ (bb : Bool) (F : Hl), sameS.post [stkQ q' 415, stkQ q' 320] [] [q'.h 415, q'.h 345] (.bool bb) [] F → Goes (crashD E' bs20) 3 25 (fateAt bs20 0) s2 all' nt' → bb = true := by
          intro q' a
          obtain ⟨n1, n2⟩ := now q' (g23.trans a)
          obtain ⟨w1, w2⟩ := want q' (M23.trans (a.mono (by omega)))
          rw [n1, n2, w1, w2]
          refine ⟨same_pre hn22 hnt' hO22.rd hrdA', fun bb F h hG => ?_⟩
          obtain ⟨_, e1, e2, e3⟩ := hG
          have e1 : (openL (crashD E' bs20) 3 25).serial = (s2 : Int) + 1 := e1
          have e2 : (openL (crashD E' bs20) 3 25).note = nt' := e2
          have e3 : openB (crashD E' bs20) 3 25 = all' := e3
          rw [e1, e2] at h
          rw [e3] at hO22
          exact hsame hnt' hO22.rd hrdA' h
        have wasS : ∀ (q' : Env), Agree 436 q23 q' → sameS.pre [stkQ q' 415, stkQ q' 51] [] [q'.h 415, q'.h 51] ∧ ∀ (bb : Bool) (F : Hl), sameS.post [stkQ q' 415, stkQ q' 51] [] [q'.h 415, q'.h 51] (.bool bb) [] F → Stays D (crashD E' bs20) 3 25 (fateAt bs20 0) s2 → bb = true := by
          intro q' a
          obtain ⟨n1, n2⟩ := now q' (g23.trans a)
          obtain ⟨_, wst, wh, _⟩ := was q' (S23.trans (a.mono (by omega)))
          rw [n1, n2, wst, wh]
          refine ⟨same_pre hn22 hn16 hO22.rd oB6, fun bb F h hG => ?_⟩
          obtain ⟨_, e1, e3⟩ := hG
          have e1 : openL (crashD E' bs20) 3 25 = openL D 3 25 := e1
          have e3 : openB (crashD E' bs20) 3 25 = openB D 3 25 := e3
          rw [e1] at h
          rw [e3] at hO22
          exact hsame hn16 hO22.rd oB6 h
        have fin : ∀ q', Agree 436 q23 q' → crInv rows bs20 0 (assign q' [⟨40, 0, .int .i64 (.var 412)⟩, ⟨41, 0, .int .i64 (.var 413)⟩, ⟨42, 0, .int .i64 (.wrap .i64 (.add (.var 42) (.lit 1)))⟩] [(43, some 412), (44, some 413)]) ∧ ((rows.length : Int) - (assign q' [⟨40, 0, .int .i64 (.var 412)⟩, ⟨41, 0, .int .i64 (.var 413)⟩, ⟨42, 0, .int .i64 (.wrap .i64 (.add (.var 42) (.lit 1)))⟩] [(43, some 412), (44, some 413)]).i 42).toNat < ((rows.length : Int) - i).toNat := by
          intro q' a
          refine back q' 412 _ s3 (G23.trans (a.mono (by omega))) (by omega) ?_ ?_ hTe
          · rw [a.h 412 (by omega), g23.h 412 (by omega), g22.h 412 (by omega)]; exact hD21
          · show LogAt (q'.h 413) (.pointer (slP (q'.i 412) (q'.i 413))) _ _ _
            rw [a.h 413 (by omega), g23.h 413 (by omega), g22.h 413 (by omega), a.i 412 (by omega), g23.i 412 (by omega), g22.i 412 (by omega), a.i 413 (by omega), g23.i 413 (by omega), g22.i 413 (by omega)]; exact hl21
        have e300 : q23.i 300 = qm.i 300 := M23.i 300 (by omega)
        rw [e300]
        refine ⟨fun h5 => ⟨(nextS q23 (Agree.refl _ _)).1, fun q24 g24 ⟨F24, hp24, _, _⟩ => ?_⟩, fun h5 => ⟨(nextS q23 (Agree.refl _ _)).1, fun q24 g24 ⟨F24, hp24, _, _⟩ => ?_⟩⟩
        · have hGo : Goes (crashD E' bs20) 3 25 (fateAt bs20 0) s2 all' nt' := by
            rcases hEnds' with ⟨h, _⟩ | ⟨_, _, h⟩ | ⟨h, _⟩
            · omega
            · exact h
            · omega
          have hb24 : q24.b 437 = true := (nextS q23 (Agree.refl _ _)).2 _ _ hp24 hGo
          rw [hb24]
          refine ⟨fun _ => ⟨(nextS q24 (g24.mono (by omega))).1, fun q25 g25 ⟨F25, hp25, _, _⟩ => ?_⟩, fun h => absurd rfl h⟩
          have hb25 : q25.b 438 = true := (nextS q24 (g24.mono (by omega))).2 _ _ hp25 hGo
          rw [hb25]
          exact ⟨fun h => absurd rfl h, fun _ => fin q25 ((g24.mono (by omega)).trans (g25.mono (by omega)))⟩
        · have hGS : Goes (crashD E' bs20) 3 25 (fateAt bs20 0) s2 all' nt' ∨ Stays D (crashD E' bs20) 3 25 (fateAt bs20 0) s2 := by
            rcases hEnds' with ⟨h, _⟩ | ⟨h, _⟩ | ⟨_, _, h⟩
            · omega
            · omega
            · exact h
          refine ⟨fun hb => ⟨(wasS q24 (g24.mono (by omega))).1, fun q25 g25 ⟨F25, hp25, _, _⟩ => ?_⟩, fun _ => fin q24 (g24.mono (by omega))⟩
          have hSt : Stays D (crashD E' bs20) 3 25 (fateAt bs20 0) s2 := by
            rcases hGS with h | h
            · exact absurd ((nextS q23 (Agree.refl _ _)).2 _ _ hp24 h) hb
            · exact h
          have hb25 : q25.b 438 = true := (wasS q24 (g24.mono (by omega))).2 _ _ hp25 hSt
          rw [hb25]
          exact ⟨fun h => absurd rfl h, fun _ => fin q25 ((g24.mono (by omega)).trans (g25.mono (by omega)))⟩
end Go.Proofs.Ytnpepkjfeadbjaa
