/- Layer 8: law08.CellsPlays answers true, as a contract. Condition: bytes below 256. -/
import Derived.Test.YtnpepkjfeadbjaaCelY
set_option linter.unusedSimpArgs false
set_option linter.unusedVariables false
set_option linter.constructorNameAsVariable false
namespace Go.Proofs.Ytnpepkjfeadbjaa
open Go Go.Sx

theorem m1_append {D : DM} {f : Nat} {n : Int} (h : Mir D f n) {b nt : List Int} (hk : (openL D f n).serial < 4611686018427387904) (hb : ¬ (openL D f n).most - ((openB D f n).length : Nat) < b.length) (hnt : nt.length = 16) (hbb : byteL b) (hnb : byteL nt) :
    ∃ D', Mir D' f n ∧ D'.n = D.n ∧ appendR D (openL D f n) (openB D f n) b nt = ⟨0, D', openL D' f n, openB D' f n⟩ ∧ openB D' f n = openB D f n ++ b ∧ (openL D' f n).serial = (openL D f n).serial + 1 ∧ (openL D' f n).note = nt := by
  have hm : (openL D f n).most = 64 * (n - 2) := rfl
  obtain ⟨a1, a2, a3, a4, a5, a6, a7, a8⟩ := h.append (b := b) (nt := nt) hk (by omega) hnt hbb hnb
  refine ⟨_, a2, a3, ?_, by rw [← a5, a6], by rw [← a4, a7], by rw [← a4, a8]⟩
  rw [← a4, ← a5]
  exact congrArg (fun z => (⟨z, _, _, _⟩ : AR)) a1
theorem m1_clear {D : DM} {f : Nat} {n : Int} (h : Mir D f n) (hk : (openL D f n).serial < 4611686018427387904) :
    ∃ D', Mir D' f n ∧ D'.n = D.n ∧ clearR D (openL D f n) (openB D f n) = ⟨0, D', openL D' f n, openB D' f n⟩ ∧ openB D' f n = [] ∧ (openL D' f n).serial = (openL D f n).serial + 1 ∧ (openL D' f n).note = (openL D f n).note := by
  obtain ⟨a1, a2, a3, a4, a5, a6, a7, a8⟩ := h.clear (bs := openB D f n) hk
  refine ⟨_, a2, a3, ?_, by rw [← a5, a6], by rw [← a4, a7], by rw [← a4, a8]⟩
  rw [← a4, ← a5]
  exact congrArg (fun z => (⟨z, _, _, _⟩ : AR)) a1
theorem m1_spent {D : DM} {f : Int} {n : Int} (hk : 4611686018427387904 ≤ (openL D f n).serial) (bs b nt : List Int) : appendR D (openL D f n) bs b nt = ⟨14, D, openL D f n, bs⟩ ∧ clearR D (openL D f n) bs = ⟨14, D, openL D f n, bs⟩ := by
  have ho : (openL D f n).over = false := rfl
  constructor
  · unfold appendR
    rw [ho, if_neg (by simp), if_pos hk]
  · unfold clearR
    rw [ho, if_neg (by simp), if_pos hk]
theorem m1_full {D : DM} {f : Int} {n : Int} (hk : (openL D f n).serial < 4611686018427387904) {bs b nt : List Int} (hb : (openL D f n).most - (bs.length : Nat) < b.length) : appendR D (openL D f n) bs b nt = ⟨4, D, openL D f n, bs⟩ := by
  have ho : (openL D f n).over = false := rfl
  unfold appendR
  rw [ho, if_neg (by simp), if_neg (by omega), if_pos hb]
theorem seg_of {R : Hl} {x y l : Int} {bs : List Int} (hl : l = bs.length) (hy : 0 ≤ y) (h : bs = [] ∨ 0 ≤ x ∧ ∀ j z, bs[j]? = some z → R.cell x.toNat (y.toNat + j) = some (.int .u8 z)) :
    ((0 ≤ x ∧ 0 ≤ y ∧ 0 ≤ l ∧ ∀ j, j < l.toNat → ∃ v, R.cell x.toNat (y.toNat + j) = some v ∧ v.oneCell' = true) ∨ l = 0) ∧ segVals R x.toNat y.toNat l.toNat = bys bs := by
  subst hl
  rw [Int.toNat_natCast]
  constructor
  · rcases h with h | ⟨hx, h⟩
    · subst h; exact Or.inr rfl
    · exact Or.inl ⟨hx, hy, by omega, fun j hj => ⟨_, h j _ (List.getElem?_eq_getElem hj), rfl⟩⟩
  · unfold segVals
    apply List.ext_getElem?
    intro j
    rw [List.getElem?_map, bys_get]
    rcases Nat.lt_or_ge j bs.length with hj | hj
    · rcases h with h | ⟨hx, h⟩
      · subst h; cases hj
      · rw [List.getElem?_range hj, Option.map_some, h j _ (List.getElem?_eq_getElem hj), List.getElem?_eq_getElem hj]
        rfl
    · rw [List.getElem?_eq_none (by simpa using hj), List.getElem?_eq_none (by omega)]; rfl
theorem RdW.seg {R : Hl} {u : Value} {bs : List Int} (h : RdW R u bs) :
    ((0 ≤ valP (some u) 0 ∧ 0 ≤ valP (some u) 1 ∧ 0 ≤ valP (some u) 2 ∧ ∀ j, j < (valP (some u) 2).toNat → ∃ v, R.cell (valP (some u) 0).toNat ((valP (some u) 1).toNat + j) = some v ∧ v.oneCell' = true) ∨ valP (some u) 2 = 0) ∧ segVals R (valP (some u) 0).toNat (valP (some u) 1).toNat (valP (some u) 2).toNat = bys bs := by
  obtain ⟨_, h2, _⟩ := RdW.parts h
  obtain ⟨x, y, c, rfl, hy, h⟩ := h
  rcases Int.lt_or_le x 0 with hx | hx
  · have hb : bs = [] := by
      rcases h with h | ⟨h, _⟩
      · exact h
      · omega
    subst hb
    refine ⟨Or.inr h2, ?_⟩
    rw [h2]; rfl
  · rw [valP_sl0 (by omega), valP_sl1 hx hy, valP_sl2 (by omega)]
    exact seg_of rfl hy h
theorem own0 (F : Hl) {a : Int} (h : 0 ≤ a) (hF : F = Hl.one a.toNat (.cells #[] 5 (0, 0))) : OwnsH F 5 1 (.slice (slP a 0) (Int.toNat 0) (Int.toNat 0)) (Int.toNat 0) [] := by
  subst hF
  exact ⟨rfl, Or.inr ⟨a.toNat, 0, #[], by rw [slP_pos h]; rfl, Hl.one_self _ _, by omega, by decide, rfl, rfl⟩⟩
def dP (q : Env) : Value := .pointer (slP (q.i 8) (q.i 9))
def playsN (nn : Int) : Int := 3 + nn.tmod 9
def playsInv (rows : List (List Value)) (nn : Int) : Nat → Env → Prop
  | 0, q => ∃ (i : Nat) (D : DM), q.i 42 = i ∧ i ≤ rows.length ∧ DiskAt (q.h 43) (dP q) D ∧ LogAt (q.h 44) (.pointer (slP (q.i 40) (q.i 41))) (dP q) (openL D 1 (playsN nn)) (openB D 1 (playsN nn)) ∧ Mir D 1 (playsN nn) ∧ (D.n : Int) = playsN nn + 1
  | _, q => ∃ (D : DM), DiskAt (q.h 203) (dP q) D ∧ LogAt (q.h 204) (.pointer (slP (q.i 200) (q.i 201))) (dP q) (openL D 1 (playsN nn)) (openB D 1 (playsN nn)) ∧ Mir D 1 (playsN nn) ∧ (D.n : Int) = playsN nn + 1
theorem png0 : pΓ[0]? = some newS := rfl
theorem png1 : pΓ[1]? = some openS := rfl
theorem png2 : pΓ[2]? = some overS := rfl
theorem png3 : pΓ[3]? = some appendS := rfl
theorem png4 : pΓ[4]? = some clearS := rfl
theorem png5 : pΓ[5]? = some roomS := rfl
theorem png6 : pΓ[6]? = some awakeS := rfl
theorem png7 : pΓ[7]? = some fewS := rfl
theorem png8 : pΓ[8]? = some noteS := rfl
theorem png9 : pΓ[9]? = some fullS := rfl
theorem png10 : pΓ[10]? = some writeS := rfl
theorem png11 : pΓ[11]? = some crashS := rfl
theorem png12 : pΓ[12]? = some looseS := rfl
theorem png13 : pΓ[13]? = some sectsS := rfl
theorem png14 : pΓ[14]? = some rofS := rfl
theorem png15 : pΓ[15]? = some stateS := rfl
theorem png16 : pΓ[16]? = some sameS := rfl
theorem pnr4 : clearS.res = [.one (.int .i64)] := rfl
theorem pnr7 : fewS.res = [.one .bool] := rfl
theorem pnr11 : crashS.res = [] := rfl
theorem pnr12 : looseS.res = [.one (.int .i64)] := rfl
set_option maxRecDepth 20000 in
set_option maxHeartbeats 4000000 in
theorem playsS_ok : playsS.OK Try.prog := by
  refine Spec.of_fn (Γ := pΓ) pΓ_ok ?_
  rintro xs Hs Rs hl1 hl2 ⟨nn, v, R, rows, rfl, rfl, ⟨n0, n1⟩, hRd, hops⟩
  have e0 : Hs = [] := List.length_eq_zero_iff.1 hl1
  subst e0
  obtain ⟨x, y, c, rfl, hy, hrows⟩ := id hRd
  refine ⟨playsW, envI [nn, x, y, rows.length, c] false [Hl.none, Hl.none, Hl.none, Hl.none, Hl.none, R], playsInv rows nn, fun _ q => (rows.length - q.i 42).toNat, ?_, ⟨?_, ?_, ?_, ?_⟩, (fun _ h => nomatch h), ?_⟩
  · show [Value.int .u8 nn, Value.slice (slP x y) ((rows.length : Int)).toNat ((c : Int)).toNat] = _
    rw [Int.toNat_natCast, Int.toNat_natCast]
  · intro r hr ho; simp [playsW] at hr; subst hr; cases ho
  · intro r hr ho; simp [playsW] at hr; subst hr; exact ⟨R, by simp, Hl.le_refl _⟩
  · simp [playsW]
  · intro r hr; simp [playsW] at hr; subst hr; trivial
  · show Nd.holds _ _ _ playsNd
    generalize hρ : envI [nn, x, y, rows.length, c] false [Hl.none, Hl.none, Hl.none, Hl.none, Hl.none, R] = ρ
    have v0 : ρ.i 0 = nn := by rw [← hρ]; rfl
    have v1 : ρ.i 1 = x := by rw [← hρ]; rfl
    have v2 : ρ.i 2 = y := by rw [← hρ]; rfl
    have v3 : ρ.i 3 = rows.length := by rw [← hρ]; rfl
    have w5 : ρ.h 5 = R := by rw [← hρ]; rfl
    have yes : ∀ (q : Env) (mem : Mem) (e : E), bev q e = true → postOf playsS [.int .u8 nn, .slice (slP x y) rows.length c] [] [R] q mem (.sv (.one (.bool e))) := fun q mem e he _ =>
      ⟨[], [], rfl, rfl, ⟨⟨fun _ => 0, fun _ => true, fun _ => .empty, fun _ => .tuple #[], fun _ => Hl.none⟩, by show Value.bool (bev q e) = .bool true; rw [he], trivial, trivial⟩, by show Value.bool (bev q e) = .bool true; rw [he]⟩
    have hN : (0 : Int) ≤ nn.tmod 9 ∧ nn.tmod 9 ≤ 8 := by rw [Int.tmod_eq_emod_of_nonneg n0]; omega
    have eN : IntKind.i64.wrap (3 + IntKind.i64.wrap (nn.tmod 9)) = playsN nn := by
      rw [wrap_i64 (n := nn.tmod 9) (by omega) (by omega), wrap_i64 (by omega) (by omega)]; rfl
    have eN1 : IntKind.i64.wrap (4 + IntKind.i64.wrap (nn.tmod 9)) = playsN nn + 1 := by
      rw [wrap_i64 (n := nn.tmod 9) (by omega) (by omega), wrap_i64 (by omega) (by omega)]
      unfold playsN; omega
    have hNr : 3 ≤ playsN nn ∧ playsN nn ≤ 11 := by unfold playsN; omega
    unfold playsNd
    simp only [Nd.holds, X.pre, X.rel, X.n, Src.ok, Src.len, Src.vals, true_and, and_true, if_true, Nat.mul_one, Nat.add_zero, Nat.reduceAdd, List.length_cons, List.length_nil, bT_tt, bT_ff, bT_bvar, bT_not, bT_and, bT_or, bT_ite, bT_lt, bT_le, bT_eq, bT_beq, bT_seq, bT_hB, bT_his, bT_hby, bT_hism, bT_hks, iev_lit, iev_var, iev_add, iev_sub, iev_mul, iev_wrap, iev_ite, iev_hI, iev_hP, iev_hmlen, sev_ite, sev_slit, sev_sof, sev_svar, TV.ev, SV.ev, CV.ev, List.map_cons, List.map_nil, Res.hl, cpTV, Cp.sv, Ck.cv, cpSVs, Cp.len, Ck.len, newHs_zero, newHs_one, roots_ne, iev_rem, png0, png1, png2, png3, png4, png5, png6, png7, png8, png9, png10, png11, png12, png13, png14, png15, png16, cr0, cr1, onr2, cr2, pnr4, ar0, gr8, pnr7, gr7, onr8, fr0, pnr11, pnr12, onr10, onr11, onr12, onr13, cc0, cc1, ac1, onc11]
    refine ⟨rfl, fun q1 g1 ⟨F1, hp1, _, _⟩ => ?_⟩
    have hb1 : q1.b 6 = true := by
      have h : Value.bool (q1.b 6) = .bool true := hp1
      simpa using h
    rw [hb1, g1.i 1 (by omega), v1, g1.i 2 (by omega), v2, g1.i 3 (by omega), v3, g1.h 5 (by omega), w5]
    have ec : (ρ.i 4).toNat = c := by rw [← hρ]; exact Int.toNat_natCast c
    rw [g1.i 4 (by omega), ec, Int.toNat_natCast]
    refine ⟨fun _ => ⟨⟨_, R, rows, rfl, rfl, hRd⟩, fun q2 g2 ⟨F2, ⟨u2, R2, rows2, b2, hx2, hR2, hRd2, hv2, hb2⟩, _, _⟩ => ?_⟩, fun h => absurd rfl h⟩
    have hlen40 : q2.b 7 = true → rows.length ≤ 40 := by
      intro h7
      have e1 : u2 = .slice (slP x y) rows.length c := by simpa using hx2.symm
      subst e1
      obtain ⟨x', y', c', he, _⟩ := hRd2
      simp only [Value.slice.injEq] at he
      have hb : b2 = true := by
        have h : Value.bool (q2.b 7) = .bool b2 := hv2
        rw [h7] at h
        simpa using h.symm
      rw [he.2.1]; exact hb2 hb
    refine ⟨fun h7 => ⟨rfl, fun q3 g3 ⟨F3, hp3, _, _⟩ => yes q3 _ _ ?_⟩, fun h7 => ?_⟩
    · have h : Value.bool (q3.b 8) = .bool true := hp3
      rw [bev_bvar]
      simpa using h
    have hlen40 := hlen40 h7
    have P2 : Agree 6 ρ q2 := g1.trans (g2.mono (by omega))
    rw [P2.i 0 (by omega), v0, eN1]
    refine ⟨⟨playsN nn + 1, rfl⟩, fun q3 g3 ⟨F3, ⟨n3, hx3, hD3⟩, hF3, _⟩ => ?_⟩
    have hx3 : playsN nn + 1 = n3 := by simpa using hx3
    subst hx3
    have hF3 := hF3 trivial
    subst hF3
    have P3 : Agree 6 ρ q3 := P2.trans (g3.mono (by omega))
    rw [P3.i 0 (by omega), v0, eN]
    have hsn : (((newD (playsN nn + 1)).n : Nat) : Int) = playsN nn + 1 := by
      show ((sects (playsN nn + 1) : Nat) : Int) = _
      unfold sects; omega
    have hM3 : Mir (newD (playsN nn + 1)) 1 (playsN nn) := newD_mir (by omega) (by omega) (by omega)
    refine ⟨⟨_, 1, _, _, _, rfl, rfl, hD3⟩, fun q4 g4 ⟨F4, hp4, hF4, _⟩ => ?_⟩
    have hF4 := hF4 trivial
    obtain ⟨pv, hD4, hv4, hl4, _⟩ := open_post hD3 hp4
    have hoe : openE (newD (playsN nn + 1)) 1 (playsN nn) = 0 := hM3.openE
    have hl4 := hl4 hoe
    rw [hoe] at hv4
    simp only [Value.tuple.injEq, Array.mk.injEq, List.cons.injEq, Value.int.injEq, true_and, and_true] at hv4
    obtain ⟨rfl, h12⟩ := hv4
    rw [← hF4] at hl4
    rw [h12]
    have P4 : Agree 6 ρ q4 := P3.trans (g4.mono (by omega))
    refine ⟨fun h => absurd rfl h, fun _ => ⟨⟨0, _, rfl, Nat.zero_le _, ?_, ?_, hM3, hsn⟩, fun q g ⟨i, D, e42, hi, hD, hL, hM, hDn⟩ => ?_⟩⟩
    · show DiskAt (q4.h 10) (.pointer (slP (q4.i 8) (q4.i 9))) _
      rw [g4.i 8 (by omega), g4.i 9 (by omega)]; exact hD4
    · show LogAt (q4.h 11) (.pointer (slP (q4.i 10) (q4.i 11))) (.pointer (slP (q4.i 8) (q4.i 9))) _ _
      rw [g4.i 8 (by omega), g4.i 9 (by omega)]; exact hl4
    have P : Agree 6 ρ q := P4.trans (g.mono (by omega))
    rw [P.i 1 (by omega), v1, P.i 2 (by omega), v2, P.i 3 (by omega), v3, P.h 5 (by omega), w5, e42]
    refine ⟨by omega, fun hlt => ?_, fun _ => yes q _ _ rfl⟩
    have hir : i < rows.length := by omega
    obtain ⟨row, hrow⟩ : ∃ r, rows[i]? = some r := ⟨_, List.getElem?_eq_getElem hir⟩
    rcases hrows with h | ⟨hx0, hr⟩
    · subst h; cases hir
    obtain ⟨b, k, m, oi, u, rfl, hm, hrd, hbb⟩ := hops row (List.mem_of_getElem? hrow)
    obtain ⟨hkk, hc⟩ := hr i _ hrow
    have hat : (y + (i : Int) * 4).toNat = y.toNat + i * opK.length := by show _ = y.toNat + i * 4; omega
    have c0 : R.cell x.toNat (y + (i : Int) * 4).toNat = some (.int .u8 k) := by rw [hat]; exact hc 0 _ rfl
    have c1 : R.cell x.toNat ((y + (i : Int) * 4).toNat + 1) = some (.int .u8 m) := by rw [hat]; exact hc 1 _ rfl
    have c2 : R.cell x.toNat ((y + (i : Int) * 4).toNat + 2) = some (.int .i64 oi) := by rw [hat]; exact hc 2 _ rfl
    have c3 : R.cell x.toNat ((y + (i : Int) * 4).toNat + 3) = some u := by rw [hat]; exact hc 3 _ rfl
    obtain ⟨hsl, hu2, hcb, _⟩ := RdW.parts hrd
    have hsl3 : valIs (some u) .slice = true := by obtain ⟨a, l, c, rfl⟩ := hsl; rfl
    rw [c0, c1, c2, c3]
    have hsz1 : ((openB D 1 (playsN nn)).length : Int) ≤ 64 * (playsN nn - 2) := hM.size.1
    have hsz2 : (openB D 1 (playsN nn)).length ≤ 1048576 := hM.size.2
    have hn16 : (openL D 1 (playsN nn)).note.length = 16 := hM.note16
    refine ⟨hx0, hy, by omega, rfl, rfl, rfl, hsl3, fun q5 g5 _ => ?_⟩
    have keep : ∀ q' : Env, Agree 50 q q' → q'.i 1 = x ∧ q'.i 2 = y ∧ q'.i 42 = i ∧ q'.h 5 = R ∧ dP q' = dP q ∧ q'.i 40 = q.i 40 ∧ q'.i 41 = q.i 41 ∧ q'.h 43 = q.h 43 ∧ q'.h 44 = q.h 44 := fun q' a =>
      ⟨by rw [a.i 1 (by omega), P.i 1 (by omega), v1], by rw [a.i 2 (by omega), P.i 2 (by omega), v2], by rw [a.i 42 (by omega), e42], by rw [a.h 5 (by omega), P.h 5 (by omega), w5], by unfold dP; rw [a.i 8 (by omega), a.i 9 (by omega)], a.i 40 (by omega), a.i 41 (by omega), a.h 43 (by omega), a.h 44 (by omega)⟩
    obtain ⟨k1, k2, k42, k5, kd, k40, k41, k43, k44⟩ := keep q5 g5
    rw [k40, k41, k44]
    obtain ⟨hser0, hserB⟩ : 0 ≤ (openL D 1 (playsN nn)).serial ∧ (openL D 1 (playsN nn)).serial < 18446744073709551616 := hM.head.1.2.1
    refine ⟨state_pre hL hsz2, fun q6 g6 ⟨F6, hp6, hF6, hn6⟩ => fun q7 g7 _ => ?_⟩
    obtain ⟨sl6, hv6, hO6⟩ := state_post hL hp6
    have hF6 := hF6 trivial
    have G7 : Agree 50 q q7 := (g5.trans (g6.mono (by omega))).trans (g7.mono (by omega))
    obtain ⟨k1, k2, k42, k5, kd, k40, k41, k43, k44⟩ := keep q7 G7
    rw [k40, k41, k44]
    refine ⟨room_pre hL hsz2, fun q8 g8 ⟨F8, hp8, _, _⟩ => ?_⟩
    have h73 := room_post hL hp8
    have h73 : q8.i 73 = (openL D 1 (playsN nn)).most - (openB D 1 (playsN nn)).length := by simpa using h73
    have st6 : stV (q6.i 51) ((List.range 16).map fun k => q6.i (52 + k)) (.slice (slP (q6.i 68) (q6.i 69)) (q6.i 70).toNat (q6.i 71).toNat) = stV (openL D 1 (playsN nn)).serial (openL D 1 (playsN nn)).note sl6 := hv6
    obtain ⟨i51, hn51, hs51⟩ := stV_inj rfl hn16 st6
    rw [← hF6, ← hs51] at hO6
    obtain ⟨⟨_, _, _, _, _, _, _, _, _, _, _, _, _, _, _, _, _, ⟨n68, n69, n70, n71⟩, _⟩, _⟩ := hn6
    have n69 : 0 ≤ q6.i 69 := n69
    have n70 : 0 ≤ q6.i 70 := n70
    obtain ⟨e70, _⟩ := hO6.rd.at n68 n69 n70
    have was : ∀ q', Agree 72 q6 q' → q'.i 51 = (openL D 1 (playsN nn)).serial ∧ Value.agg (List.map (CV.ev q') (ckCVs 51 ([Ck.int IntKind.u64] ++ List.replicate 16 (Ck.int IntKind.u8) ++ [Ck.sl]))).toArray = stV (openL D 1 (playsN nn)).serial (openL D 1 (playsN nn)).note sl6 ∧ q'.h 51 = q6.h 51 ∧ List.map (CV.ev q') (ckCVs 52 (List.replicate 16 (Ck.int IntKind.u8))) = bys (openL D 1 (playsN nn)).note ∧ q'.i 68 = q6.i 68 ∧ q'.i 69 = q6.i 69 ∧ q'.i 70 = (openB D 1 (playsN nn)).length ∧ q'.i 71 = q6.i 71 := by
      intro q' a
      refine ⟨by rw [a.i 51 (by omega)]; exact i51, ?_, a.h 51 (by omega), ?_, a.i 68 (by omega), a.i 69 (by omega), by rw [a.i 70 (by omega)]; exact e70, a.i 71 (by omega)⟩
      · have e : List.map (CV.ev q') (ckCVs 51 stk) = List.map (CV.ev q6) (ckCVs 51 stk) := CV.agreeL (a.mono (by decide)) _ (ckCVs_upto stk 51)
        show Value.agg (List.map (CV.ev q') (ckCVs 51 stk)).toArray = _
        rw [e]; exact hv6
      · refine u8_ev 16 52 _ hn16 fun k hk => ?_
        rw [a.i _ (by omega), ← hn51, List.getD_eq_getElem?_getD, List.getElem?_map, List.getElem?_range hk]
        rfl
    have S8 : Agree 72 q6 q8 := g7.trans (g8.mono (by omega))
    have G8 : Agree 50 q q8 := G7.trans (g8.mono (by omega))
    obtain ⟨w51, _, _, _, _, _, _, _⟩ := was q8 S8
    obtain ⟨k1, k2, k42, k5, kd, k40, k41, k43, k44⟩ := keep q8 G8
    rw [w51, k1, k2, k42, k5, c1]
    have ntev : ∀ (q' : Env) (n : Nat) (v : Value), Value.agg (List.map (CV.ev q') (ckCVs n (List.replicate 16 (Ck.int IntKind.u8)))).toArray = noteG [.int .u8 m] → List.map (CV.ev q') (ckCVs n (List.replicate 16 (Ck.int IntKind.u8))) = bys (noteL m) := by
      intro q' n v h
      have h : Value.agg (List.map (CV.ev q') (ckCVs n (List.replicate 16 (Ck.int IntKind.u8)))).toArray = Value.agg (bys (noteL m)).toArray := h
      simpa using h
    have hnl : (noteL m).length = 16 := rfl
    have hdq : ∀ q' : Env, Agree 50 q q' → Value.pointer (slP (q'.i 8) (q'.i 9)) = dP q := fun q' a => (keep q' a).2.2.2.2.1
    refine ⟨fun h62 => ⟨note_pre _, fun q9 g9 ⟨F9, hp9, _, _⟩ => ?_⟩, fun h62 => ?_⟩
    · have hp9 := ntev q9 74 (.bool true) hp9
      have G9 : Agree 50 q q9 := G8.trans (g9.mono (by omega))
      obtain ⟨k1, k2, k42, k5, kd, k40, k41, k43, k44⟩ := keep q9 G9
      rw [k40, k41, k1, k2, k42, k5, c3, sl_parts hsl, hp9, k44, k43]
      obtain ⟨sp1, sp2⟩ := m1_spent (D := D) (f := 1) (n := playsN nn) h62 (openB D 1 (playsN nn)) b (noteL m)
      refine ⟨append_pre hL hD hrd hsz2 hnl hser0, fun q10 g10 ⟨F10, hp10, _, _⟩ => ?_⟩
      obtain ⟨H', HD', hK, hDa, hLa, hva⟩ := append_post hL hD hrd hp10
      rw [sp1] at hDa hLa hva
      have hva : q10.i 90 = 14 := by simpa using hva
      have hK : q10.h 90 = H' ∧ q10.h 91 = HD' := by
        have h1 : [q10.h 90, q10.h 91] = [H', HD'] := hK
        simpa using h1
      rw [← hK.1] at hLa
      rw [← hK.2] at hDa
      rw [hva]
      have G10 : Agree 50 q q10 := G9.trans (g10.mono (by omega))
      obtain ⟨k1, k2, k42, k5, kd, k40, k41, k43, k44⟩ := keep q10 G10
      rw [k40, k41]
      refine ⟨fun _ => ⟨clear_pre hLa hDa hser0, fun q11 g11 ⟨F11, hp11, _, _⟩ => ?_⟩, fun h => absurd rfl h⟩
      obtain ⟨H', HD', hK, hDb, hLb, hvb⟩ := clear_post hLa hDa hp11
      rw [sp2] at hDb hLb hvb
      have hvb : q11.i 93 = 14 := by simpa using hvb
      have hK : q11.h 93 = H' ∧ q11.h 94 = HD' := by
        have h1 : [q11.h 93, q11.h 94] = [H', HD'] := hK
        simpa using h1
      rw [← hK.1] at hLb
      rw [hvb]
      have G11 : Agree 50 q q11 := G10.trans (g11.mono (by omega))
      obtain ⟨k1, k2, k42, k5, kd, k40, k41, k43, k44⟩ := keep q11 G11
      rw [k40, k41]
      refine ⟨fun _ => ⟨state_pre hLb hsz2, fun q12 g12 ⟨F12, hp12, hF12, hn12⟩ => ?_⟩, fun h => absurd rfl h⟩
      obtain ⟨sl12, hv12, hO12⟩ := state_post hLb hp12
      have hF12 := hF12 trivial
      have S12 : Agree 72 q6 q12 := ((S8.trans (g9.mono (by omega))).trans (g10.mono (by omega))).trans ((g11.mono (by omega)).trans (g12.mono (by omega)))
      obtain ⟨w51, wst, wh, wn, _, _, _, _⟩ := was q12 S12
      have hv12' : Value.agg (List.map (CV.ev q12) (ckCVs 96 ([Ck.int IntKind.u64] ++ List.replicate 16 (Ck.int IntKind.u8) ++ [Ck.sl]))).toArray = stV (openL D 1 (playsN nn)).serial (openL D 1 (playsN nn)).note sl12 := hv12
      rw [hv12', wst, wh]
      rw [← hF12] at hO12
      refine ⟨same_pre hn16 hn16 hO12.rd (by rw [← hs51]; exact hO6.rd), fun q13 g13 ⟨F13, hp13, _, _⟩ => yes q13 _ _ ?_⟩
      have h := same_post hn16 hO12.rd (by rw [← hs51]; exact hO6.rd) hp13
      have h : Value.bool (q13.b 117) = .bool true := h
      rw [bev_bvar]
      simpa using h
    have inv1 : ∀ (q' : Env) (p1 p2 d l : Nat) (D' : DM), Agree 50 q q' → DiskAt (q'.h d) (dP q) D' → LogAt (q'.h l) (.pointer (slP (q'.i p1) (q'.i p2))) (dP q) (openL D' 1 (playsN nn)) (openB D' 1 (playsN nn)) → Mir D' 1 (playsN nn) → D'.n = D.n → playsInv rows nn 1 (assign q' [⟨200, 0, .int .i64 (.var p1)⟩, ⟨201, 0, .int .i64 (.var p2)⟩] [(203, some d), (204, some l)]) := by
      intro q' p1 p2 d l D' a h1 h2 h3 h4
      refine ⟨D', ?_, ?_, h3, by rw [h4]; exact hDn⟩
      · show DiskAt (q'.h d) (.pointer (slP (q'.i 8) (q'.i 9))) D'
        rw [hdq q' a]; exact h1
      · show LogAt (q'.h l) (.pointer (slP (q'.i p1) (q'.i p2))) (.pointer (slP (q'.i 8) (q'.i 9))) _ _
        rw [hdq q' a]; exact h2
    have back : ∀ (q' : Env) (p1 p2 d l : Nat) (D' : DM), Agree 50 q q' → DiskAt (q'.h d) (dP q) D' → LogAt (q'.h l) (.pointer (slP (q'.i p1) (q'.i p2))) (dP q) (openL D' 1 (playsN nn)) (openB D' 1 (playsN nn)) → Mir D' 1 (playsN nn) → D'.n = D.n →
        playsInv rows nn 0 (assign q' [⟨40, 0, .int .i64 (.var p1)⟩, ⟨41, 0, .int .i64 (.var p2)⟩, ⟨42, 0, .int .i64 (.wrap .i64 (.add (.var 42) (.lit 1)))⟩] [(43, some d), (44, some l)]) ∧ ((rows.length : Int) - (assign q' [⟨40, 0, .int .i64 (.var p1)⟩, ⟨41, 0, .int .i64 (.var p2)⟩, ⟨42, 0, .int .i64 (.wrap .i64 (.add (.var 42) (.lit 1)))⟩] [(43, some d), (44, some l)]).i 42).toNat < ((rows.length : Int) - i).toNat := by
      intro q' p1 p2 d l D' a h1 h2 h3 h4
      have m42 : (assign q' [⟨40, 0, .int .i64 (.var p1)⟩, ⟨41, 0, .int .i64 (.var p2)⟩, ⟨42, 0, .int .i64 (.wrap .i64 (.add (.var 42) (.lit 1)))⟩] [(43, some d), (44, some l)]).i 42 = i + 1 := by
        show IntKind.i64.wrap (q'.i 42 + 1) = _
        rw [(keep q' a).2.2.1, wrap_i64 (by omega) (by omega)]
      refine ⟨⟨i + 1, D', by rw [m42]; omega, by omega, ?_, ?_, h3, by rw [h4]; exact hDn⟩, by rw [m42]; omega⟩
      · show DiskAt (q'.h d) (.pointer (slP (q'.i 8) (q'.i 9))) D'
        rw [hdq q' a]; exact h1
      · show LogAt (q'.h l) (.pointer (slP (q'.i p1) (q'.i p2))) (.pointer (slP (q'.i 8) (q'.i 9))) _ _
        rw [hdq q' a]; exact h2
    have ek : valI (R.cell x.toNat (y + (i : Int) * 4).toNat) = k := by rw [c0]; rfl
    have hser62 : (openL D 1 (playsN nn)).serial < 4611686018427387904 := by omega
    have hmost : (openL D 1 (playsN nn)).most = 64 * (playsN nn - 2) := rfl
    have hsame : ∀ {R1 R2 F : Hl} {u1 u2 : Value} {b1 n1 : List Int} {s1 : Int} {K : List Hl} {bb : Bool}, n1.length = 16 → RdB R1 u1 b1 → RdB R2 u2 b1 → sameS.post [stV s1 n1 u1, stV s1 n1 u2] [] [R1, R2] (.bool bb) K F → bb = true := by
      intro R1 R2 F u1 u2 b1 n1 s1 K bb h1 h2 h3 h
      have h := same_post h1 h2 h3 h
      simpa using h
    have oB6 : RdB (q6.h 51) sl6 (openB D 1 (playsN nn)) := by rw [← hs51]; exact hO6.rd
    refine ⟨⟨fun hk0 => ⟨note_pre _, fun q9 g9 ⟨F9, hp9, _, _⟩ => ?_⟩, fun hk0 => ⟨fun hk1 => ?_, fun hk1 => ⟨fun hk4 => ?_, fun hk4 => ?_⟩⟩⟩, fun ql gl hI => ?_⟩
    · -- Append
      have hp9 := ntev q9 74 (.bool true) hp9
      have G9 : Agree 50 q q9 := G8.trans (g9.mono (by omega))
      obtain ⟨k1, k2, k42, k5, kd, k40, k41, k43, k44⟩ := keep q9 G9
      rw [k40, k41, k1, k2, k42, k5, c3, sl_parts hsl, hp9, k44, k43]
      refine ⟨append_pre hL hD hrd hsz2 hnl hser0, fun q10 g10 ⟨F10, hp10, _, _⟩ => ?_⟩
      obtain ⟨H', HD', hK, hDa, hLa, hva⟩ := append_post hL hD hrd hp10
      have hK : q10.h 90 = H' ∧ q10.h 91 = HD' := by
        have h1 : [q10.h 90, q10.h 91] = [H', HD'] := hK
        simpa using h1
      rw [← hK.1] at hLa
      rw [← hK.2] at hDa
      have G10 : Agree 50 q q10 := G9.trans (g10.mono (by omega))
      have S10 : Agree 72 q6 q10 := (S8.trans (g9.mono (by omega))).trans (g10.mono (by omega))
      obtain ⟨k1, k2, k42, k5, kd, k40, k41, k43, k44⟩ := keep q10 G10
      have e73 : q10.i 73 = (openL D 1 (playsN nn)).most - (openB D 1 (playsN nn)).length := by rw [g10.i 73 (by omega), g9.i 73 (by omega), h73]
      rw [k1, k2, k42, k5, c3, hu2, k40, k41, e73]
      refine ⟨by omega, fun hfull => ?_, fun hfit => ?_⟩
      · rw [m1_full hser62 hfull] at hDa hLa hva
        have hva : q10.i 90 = 4 := by simpa using hva
        rw [hva]
        refine ⟨fun h => absurd rfl h, fun _ => ⟨state_pre hLa hsz2, fun q11 g11 ⟨F11, hp11, hF11, _⟩ => ?_⟩⟩
        obtain ⟨sl11, hv11, hO11⟩ := state_post hLa hp11
        have hF11 := hF11 trivial
        obtain ⟨w51, wst, wh, wn, _, _, _, _⟩ := was q11 (S10.trans (g11.mono (by omega)))
        have hv11' : Value.agg (List.map (CV.ev q11) (ckCVs 93 ([Ck.int IntKind.u64] ++ List.replicate 16 (Ck.int IntKind.u8) ++ [Ck.sl]))).toArray = stV (openL D 1 (playsN nn)).serial (openL D 1 (playsN nn)).note sl11 := hv11
        rw [hv11', wst, wh]
        rw [← hF11] at hO11
        refine ⟨same_pre hn16 hn16 hO11.rd oB6, fun q12 g12 ⟨F12, hp12, _, _⟩ => ?_⟩
        have h : q12.b 114 = true := hsame hn16 hO11.rd oB6 hp12
        rw [h]
        have G12 : Agree 50 q q12 := G10.trans ((g11.mono (by omega)).trans (g12.mono (by omega)))
        refine ⟨fun h => absurd rfl h, fun _ => back q12 40 41 91 90 D G12 ?_ ?_ hM rfl⟩
        · rw [g12.h 91 (by omega), g11.h 91 (by omega)]; exact hDa
        · rw [g12.h 90 (by omega), g11.h 90 (by omega), (keep q12 G12).2.2.2.2.2.1, (keep q12 G12).2.2.2.2.2.2.1]; exact hLa
      · obtain ⟨D2, hM2, hn2, happ, hB2, hS2, hN2⟩ := m1_append (D := D) (f := 1) (n := playsN nn) hM (b := b) (nt := noteL m) hser62 hfit hnl hbb (fun z hz => by have := List.eq_of_mem_replicate hz; omega)
        have happ : appendR D (openL D 1 (playsN nn)) (openB D 1 (playsN nn)) b (noteL m) = ⟨0, D2, openL D2 1 (playsN nn), openB D2 1 (playsN nn)⟩ := happ
        rw [happ] at hDa hLa hva
        have hva : q10.i 90 = 0 := by simpa using hva
        have hB2 : openB D2 1 (playsN nn) = openB D 1 (playsN nn) ++ b := hB2
        have hS2 : (openL D2 1 (playsN nn)).serial = (openL D 1 (playsN nn)).serial + 1 := hS2
        have hN2 : (openL D2 1 (playsN nn)).note = noteL m := hN2
        have hsz22 : (openB D2 1 (playsN nn)).length ≤ 1048576 := hM2.size.2
        rw [c1]
        refine ⟨⟨note_pre _, fun q11 g11 ⟨F11, hp11, _, _⟩ q12 g12 _ => ?_⟩, fun q11 g11 p93 => ?_⟩
        rotate_left
        · obtain ⟨k1, k2, k42, k5, kd, k40, k41, k43, k44⟩ := keep q11 (G10.trans (g11.mono (by omega)))
          rw [k1, k2, k42, k5, c1]
          refine ⟨note_pre _, fun q12 g12 ⟨F12, hp12, _, _⟩ => ?_⟩
          have p12 : 0 ≤ q12.i 93 := by rw [g12.i 93 (by omega)]; assumption
          have nt12 : List.map (CV.ev q12) (ckCVs 94 (List.replicate 16 (Ck.int IntKind.u8))) = bys (noteL m) := ntev q12 94 (.bool true) hp12
          have T12 : Agree 92 q10 q12 := (g11.mono (by omega)).trans (g12.mono (by omega))
          have G12 : Agree 50 q q12 := G10.trans (T12.mono (by omega))
          have S12 : Agree 72 q6 q12 := S10.trans (T12.mono (by omega))
          have hnil := own0 (Hl.one (q12.i 93).toNat (.cells #[] 5 (0, 0))) p12 rfl
          obtain ⟨_, _, wh, _, w68, w69, w70, _⟩ := was q12 S12
          obtain ⟨sA, sB⟩ := seg_of (R := q6.h 51) (x := q6.i 68) (y := q6.i 69) (l := ((openB D 1 (playsN nn)).length : Int)) rfl n69 ((hO6.rd.at n68 n69 n70).2.imp (·.2) id)
          obtain ⟨tA, tB⟩ := RdW.seg hrd
          rw [w68, w69, w70, wh]
          refine ⟨⟨⟨[], hnil⟩, Int.le_refl _, sA, by unfold maxLen; omega, by omega⟩, fun q13 g13 ⟨a1, a2, a3, _⟩ => ?_⟩
          have hx13 := a3 _ hnil
          rw [sB, List.nil_append] at hx13
          have G13 : Agree 50 q q13 := G12.trans (g13.mono (by omega))
          have S13 : Agree 72 q6 q13 := S12.trans (g13.mono (by omega))
          obtain ⟨k1, k2, k42, k5, kd, k40, k41, k43, k44⟩ := keep q13 G13
          obtain ⟨_, _, wh, _, w68, w69, w70, _⟩ := was q13 S13
          rw [k1, k2, k42, k5, c3, w70]
          rw [show Int.toNat 0 + ((openB D 1 (playsN nn)).length : Int).toNat = ((openB D 1 (playsN nn)).length : Int).toNat by omega] at hx13
          refine ⟨⟨⟨_, hx13⟩, by omega, tA, by unfold maxLen; omega, by omega⟩, fun q14 g14 ⟨b1, b2, b3, _⟩ q15 g15 _ => ?_⟩
          have hx14 := b3 _ hx13
          rw [tB, hu2, ← bys_append] at hx14
          have T15 : Agree 92 q10 q15 := T12.trans ((g13.mono (by omega)).trans ((g14.mono (by omega)).trans (g15.mono (by omega))))
          have G15 : Agree 50 q q15 := G10.trans (T15.mono (by omega))
          have S15 : Agree 72 q6 q15 := S10.trans (T15.mono (by omega))
          obtain ⟨k1, k2, k42, k5, kd, k40, k41, k43, k44⟩ := keep q15 G15
          rw [T15.i 90 (by omega), hva, k40, k41, T15.h 90 (by omega)]
          refine ⟨fun h => absurd rfl h, fun _ => ⟨state_pre hLa hsz22, fun q16 g16 ⟨F16, hp16, hF16, _⟩ => ?_⟩⟩
          obtain ⟨sl16, hv16, hO16⟩ := state_post hLa hp16
          have hF16 := hF16 trivial
          rw [← hF16] at hO16
          have T16 : Agree 92 q10 q16 := T15.trans (g16.mono (by omega))
          have G16 : Agree 50 q q16 := G10.trans (T16.mono (by omega))
          have S16 : Agree 72 q6 q16 := S10.trans (T16.mono (by omega))
          have U16 : Agree 110 q12 q16 := (g13.mono (by omega)).trans ((g14.mono (by omega)).trans ((g15.mono (by omega)).trans (g16.mono (by omega))))
          obtain ⟨k1, k2, k42, k5, kd, k40, k41, k43, k44⟩ := keep q16 G16
          obtain ⟨w51, _, wh, _, w68, w69, w70, _⟩ := was q16 S16
          have nt16 : List.map (CV.ev q16) (ckCVs 94 (List.replicate 16 (Ck.int IntKind.u8))) = bys (noteL m) := by
            rw [CV.agreeL (U16.mono (by decide)) _ (ckCVs_upto (List.replicate 16 (Ck.int IntKind.u8)) 94)]; exact nt12
          have hwant : ∀ z, z = ([CV.int IntKind.u64 (E.wrap IntKind.u64 ((E.var 51).add (E.lit 1)))] ++ ckCVs 94 (List.replicate 16 (Ck.int IntKind.u8)) ++ [CV.sl (E.var 112) (E.lit 0) ((E.var 70).add (E.hP 5 (E.var 1) ((E.var 2).add ((E.var 42).mul (E.lit 4))) 3 2)) (E.var 113)]) → Value.agg (List.map (CV.ev q16) z).toArray = stV ((openL D 1 (playsN nn)).serial + 1) (noteL m) (.slice (slP (q16.i 112) 0) (openB D 1 (playsN nn) ++ b).length (q16.i 113).toNat) := by
            rintro z rfl
            rw [List.map_append, List.map_append, nt16]
            show Value.agg ([Value.int .u64 (IntKind.u64.wrap (q16.i 51 + 1))] ++ bys (noteL m) ++ [Value.slice (slP (q16.i 112) 0) (q16.i 70 + valP ((q16.h 5).cell (q16.i 1).toNat ((q16.i 2 + q16.i 42 * 4).toNat + 3)) 2).toNat (q16.i 113).toNat]).toArray = _
            rw [k1, k2, k42, k5, c3, hu2, w70, w51, wrap_u64 (by omega) (by omega), List.length_append, show (((openB D 1 (playsN nn)).length : Int) + (b.length : Int)).toNat = (openB D 1 (playsN nn)).length + b.length by omega]
            rfl
          have hx16 : OwB (q16.h 112) 5 (.slice (slP (q16.i 112) 0) (openB D 1 (playsN nn) ++ b).length (q16.i 113).toNat) (openB D 1 (playsN nn) ++ b) := by
            rw [g16.h 112 (by omega), g16.i 112 (by omega), g16.i 113 (by omega), g15.h 112 (by omega), g15.i 112 (by omega), g15.i 113 (by omega)]
            unfold OwB
            rw [Int.toNat_natCast, Int.toNat_natCast] at hx14
            rw [List.length_append]
            exact hx14
          rw [hS2, hN2] at hv16
          rw [hB2] at hO16
          have hv16' : Value.agg (List.map (CV.ev q16) (ckCVs 115 ([Ck.int IntKind.u64] ++ List.replicate 16 (Ck.int IntKind.u8) ++ [Ck.sl]))).toArray = stV ((openL D 1 (playsN nn)).serial + 1) (noteL m) sl16 := hv16
          rw [hv16', hwant _ rfl]
          refine ⟨same_pre hnl hnl hO16.rd hx16.rd, fun q17 g17 ⟨F17, hp17, _, _⟩ => ?_⟩
          have h : q17.b 136 = true := hsame hnl hO16.rd hx16.rd hp17
          rw [h]
          have T17 : Agree 92 q10 q17 := T16.trans (g17.mono (by omega))
          have G17 : Agree 50 q q17 := G10.trans (T17.mono (by omega))
          obtain ⟨k1, k2, k42, k5, kd, k40, k41, k43, k44⟩ := keep q17 G17
          rw [k40, k41, T17.h 90 (by omega)]
          refine ⟨fun h => absurd rfl h, fun _ => ⟨room_pre hLa hsz22, fun q18 g18 ⟨F18, hp18, _, _⟩ => ?_⟩⟩
          have h137 := room_post hLa hp18
          have h137 : q18.i 137 = (openL D2 1 (playsN nn)).most - (openB D2 1 (playsN nn)).length := by simpa using h137
          have hm2 : (openL D2 1 (playsN nn)).most = (openL D 1 (playsN nn)).most := rfl
          have T18 : Agree 92 q10 q18 := T17.trans (g18.mono (by omega))
          have G18 : Agree 50 q q18 := G10.trans (T18.mono (by omega))
          obtain ⟨k1, k2, k42, k5, kd, k40, k41, k43, k44⟩ := keep q18 G18
          rw [h137, hm2, hB2, List.length_append, T18.i 73 (by omega), e73, k1, k2, k42, k5, c3, hu2, wrap_i64 (by omega) (by omega)]
          refine ⟨fun h => absurd (by omega) h, fun _ => inv1 q18 40 41 91 90 D2 G18 ?_ ?_ hM2 hn2⟩
          · rw [T18.h 91 (by omega)]; exact hDa
          · rw [T18.h 90 (by omega), k40, k41]; exact hLa
        · have p12 : 0 ≤ q12.i 109 := by assumption
          have nt12 : List.map (CV.ev q12) (ckCVs 93 (List.replicate 16 (Ck.int IntKind.u8))) = bys (noteL m) := by
            rw [CV.agreeL (g12.mono (by decide)) _ (ckCVs_upto (List.replicate 16 (Ck.int IntKind.u8)) 93)]; exact ntev q11 93 (.bool true) hp11
          have T12 : Agree 92 q10 q12 := (g11.mono (by omega)).trans (g12.mono (by omega))
          have G12 : Agree 50 q q12 := G10.trans (T12.mono (by omega))
          have S12 : Agree 72 q6 q12 := S10.trans (T12.mono (by omega))
          have hnil := own0 (Hl.one (q12.i 109).toNat (.cells #[] 5 (0, 0))) p12 rfl
          obtain ⟨_, _, wh, _, w68, w69, w70, _⟩ := was q12 S12
          obtain ⟨sA, sB⟩ := seg_of (R := q6.h 51) (x := q6.i 68) (y := q6.i 69) (l := ((openB D 1 (playsN nn)).length : Int)) rfl n69 ((hO6.rd.at n68 n69 n70).2.imp (·.2) id)
          obtain ⟨tA, tB⟩ := RdW.seg hrd
          rw [w68, w69, w70, wh]
          refine ⟨⟨⟨[], hnil⟩, Int.le_refl _, sA, by unfold maxLen; omega, by omega⟩, fun q13 g13 ⟨a1, a2, a3, _⟩ => ?_⟩
          have hx13 := a3 _ hnil
          rw [sB, List.nil_append] at hx13
          have G13 : Agree 50 q q13 := G12.trans (g13.mono (by omega))
          have S13 : Agree 72 q6 q13 := S12.trans (g13.mono (by omega))
          obtain ⟨k1, k2, k42, k5, kd, k40, k41, k43, k44⟩ := keep q13 G13
          obtain ⟨_, _, wh, _, w68, w69, w70, _⟩ := was q13 S13
          rw [k1, k2, k42, k5, c3, w70]
          rw [show Int.toNat 0 + ((openB D 1 (playsN nn)).length : Int).toNat = ((openB D 1 (playsN nn)).length : Int).toNat by omega] at hx13
          refine ⟨⟨⟨_, hx13⟩, by omega, tA, by unfold maxLen; omega, by omega⟩, fun q14 g14 ⟨b1, b2, b3, _⟩ q15 g15 _ => ?_⟩
          have hx14 := b3 _ hx13
          rw [tB, hu2, ← bys_append] at hx14
          have T15 : Agree 92 q10 q15 := T12.trans ((g13.mono (by omega)).trans ((g14.mono (by omega)).trans (g15.mono (by omega))))
          have G15 : Agree 50 q q15 := G10.trans (T15.mono (by omega))
          have S15 : Agree 72 q6 q15 := S10.trans (T15.mono (by omega))
          obtain ⟨k1, k2, k42, k5, kd, k40, k41, k43, k44⟩ := keep q15 G15
          rw [T15.i 90 (by omega), hva, k40, k41, T15.h 90 (by omega)]
          refine ⟨fun h => absurd rfl h, fun _ => ⟨state_pre hLa hsz22, fun q16 g16 ⟨F16, hp16, hF16, _⟩ => ?_⟩⟩
          obtain ⟨sl16, hv16, hO16⟩ := state_post hLa hp16
          have hF16 := hF16 trivial
          rw [← hF16] at hO16
          have T16 : Agree 92 q10 q16 := T15.trans (g16.mono (by omega))
          have G16 : Agree 50 q q16 := G10.trans (T16.mono (by omega))
          have S16 : Agree 72 q6 q16 := S10.trans (T16.mono (by omega))
          have U16 : Agree 109 q12 q16 := (g13.mono (by omega)).trans ((g14.mono (by omega)).trans ((g15.mono (by omega)).trans (g16.mono (by omega))))
          obtain ⟨k1, k2, k42, k5, kd, k40, k41, k43, k44⟩ := keep q16 G16
          obtain ⟨w51, _, wh, _, w68, w69, w70, _⟩ := was q16 S16
          have nt16 : List.map (CV.ev q16) (ckCVs 93 (List.replicate 16 (Ck.int IntKind.u8))) = bys (noteL m) := by
            rw [CV.agreeL (U16.mono (by decide)) _ (ckCVs_upto (List.replicate 16 (Ck.int IntKind.u8)) 93)]; exact nt12
          have hwant : ∀ z, z = ([CV.int IntKind.u64 (E.wrap IntKind.u64 ((E.var 51).add (E.lit 1)))] ++ ckCVs 93 (List.replicate 16 (Ck.int IntKind.u8)) ++ [CV.sl (E.var 112) (E.lit 0) ((E.var 70).add (E.hP 5 (E.var 1) ((E.var 2).add ((E.var 42).mul (E.lit 4))) 3 2)) (E.var 113)]) → Value.agg (List.map (CV.ev q16) z).toArray = stV ((openL D 1 (playsN nn)).serial + 1) (noteL m) (.slice (slP (q16.i 112) 0) (openB D 1 (playsN nn) ++ b).length (q16.i 113).toNat) := by
            rintro z rfl
            rw [List.map_append, List.map_append, nt16]
            show Value.agg ([Value.int .u64 (IntKind.u64.wrap (q16.i 51 + 1))] ++ bys (noteL m) ++ [Value.slice (slP (q16.i 112) 0) (q16.i 70 + valP ((q16.h 5).cell (q16.i 1).toNat ((q16.i 2 + q16.i 42 * 4).toNat + 3)) 2).toNat (q16.i 113).toNat]).toArray = _
            rw [k1, k2, k42, k5, c3, hu2, w70, w51, wrap_u64 (by omega) (by omega), List.length_append, show (((openB D 1 (playsN nn)).length : Int) + (b.length : Int)).toNat = (openB D 1 (playsN nn)).length + b.length by omega]
            rfl
          have hx16 : OwB (q16.h 112) 5 (.slice (slP (q16.i 112) 0) (openB D 1 (playsN nn) ++ b).length (q16.i 113).toNat) (openB D 1 (playsN nn) ++ b) := by
            rw [g16.h 112 (by omega), g16.i 112 (by omega), g16.i 113 (by omega), g15.h 112 (by omega), g15.i 112 (by omega), g15.i 113 (by omega)]
            unfold OwB
            rw [Int.toNat_natCast, Int.toNat_natCast] at hx14
            rw [List.length_append]
            exact hx14
          rw [hS2, hN2] at hv16
          rw [hB2] at hO16
          have hv16' : Value.agg (List.map (CV.ev q16) (ckCVs 115 ([Ck.int IntKind.u64] ++ List.replicate 16 (Ck.int IntKind.u8) ++ [Ck.sl]))).toArray = stV ((openL D 1 (playsN nn)).serial + 1) (noteL m) sl16 := hv16
          rw [hv16', hwant _ rfl]
          refine ⟨same_pre hnl hnl hO16.rd hx16.rd, fun q17 g17 ⟨F17, hp17, _, _⟩ => ?_⟩
          have h : q17.b 136 = true := hsame hnl hO16.rd hx16.rd hp17
          rw [h]
          have T17 : Agree 92 q10 q17 := T16.trans (g17.mono (by omega))
          have G17 : Agree 50 q q17 := G10.trans (T17.mono (by omega))
          obtain ⟨k1, k2, k42, k5, kd, k40, k41, k43, k44⟩ := keep q17 G17
          rw [k40, k41, T17.h 90 (by omega)]
          refine ⟨fun h => absurd rfl h, fun _ => ⟨room_pre hLa hsz22, fun q18 g18 ⟨F18, hp18, _, _⟩ => ?_⟩⟩
          have h137 := room_post hLa hp18
          have h137 : q18.i 137 = (openL D2 1 (playsN nn)).most - (openB D2 1 (playsN nn)).length := by simpa using h137
          have hm2 : (openL D2 1 (playsN nn)).most = (openL D 1 (playsN nn)).most := rfl
          have T18 : Agree 92 q10 q18 := T17.trans (g18.mono (by omega))
          have G18 : Agree 50 q q18 := G10.trans (T18.mono (by omega))
          obtain ⟨k1, k2, k42, k5, kd, k40, k41, k43, k44⟩ := keep q18 G18
          rw [h137, hm2, hB2, List.length_append, T18.i 73 (by omega), e73, k1, k2, k42, k5, c3, hu2, wrap_i64 (by omega) (by omega)]
          refine ⟨fun h => absurd (by omega) h, fun _ => inv1 q18 40 41 91 90 D2 G18 ?_ ?_ hM2 hn2⟩
          · rw [T18.h 91 (by omega)]; exact hDa
          · rw [T18.h 90 (by omega), k40, k41]; exact hLa
    · -- Clear
      obtain ⟨k1, k2, k42, k5, kd, k40, k41, k43, k44⟩ := keep q8 G8
      rw [k40, k41, k44, k43]
      refine ⟨clear_pre hL hD hser0, fun q9 g9 ⟨F9, hp9, _, _⟩ => ?_⟩
      obtain ⟨H', HD', hK, hDa, hLa, hva⟩ := clear_post hL hD hp9
      have hK : q9.h 74 = H' ∧ q9.h 75 = HD' := by
        have h1 : [q9.h 74, q9.h 75] = [H', HD'] := hK
        simpa using h1
      rw [← hK.1] at hLa
      rw [← hK.2] at hDa
      obtain ⟨D2, hM2, hn2, hclr, hB2, hS2, hN2⟩ := m1_clear (D := D) (f := 1) (n := playsN nn) hM hser62
      have hclr : clearR D (openL D 1 (playsN nn)) (openB D 1 (playsN nn)) = ⟨0, D2, openL D2 1 (playsN nn), openB D2 1 (playsN nn)⟩ := hclr
      rw [hclr] at hDa hLa hva
      have hva : q9.i 74 = 0 := by simpa using hva
      have hB2 : openB D2 1 (playsN nn) = [] := hB2
      have hS2 : (openL D2 1 (playsN nn)).serial = (openL D 1 (playsN nn)).serial + 1 := hS2
      have hN2 : (openL D2 1 (playsN nn)).note = (openL D 1 (playsN nn)).note := hN2
      have G9 : Agree 50 q q9 := G8.trans (g9.mono (by omega))
      obtain ⟨k1, k2, k42, k5, kd, k40, k41, k43, k44⟩ := keep q9 G9
      rw [hva, k40, k41]
      refine ⟨fun h => absurd rfl h, fun _ => ⟨state_pre hLa (by rw [hB2]; simp), fun q10 g10 ⟨F10, hp10, hF10, _⟩ => ?_⟩⟩
      obtain ⟨sl10, hv10, hO10⟩ := state_post hLa hp10
      have hF10 := hF10 trivial
      rw [← hF10, hB2] at hO10
      rw [hS2, hN2] at hv10
      have S10 : Agree 72 q6 q10 := (S8.trans (g9.mono (by omega))).trans (g10.mono (by omega))
      have G10 : Agree 50 q q10 := G9.trans (g10.mono (by omega))
      obtain ⟨w51, _, wh, wn, w68, w69, w70, _⟩ := was q10 S10
      have hwant : ∀ z, z = ([CV.int IntKind.u64 (E.wrap IntKind.u64 ((E.var 51).add (E.lit 1)))] ++ ckCVs 52 (List.replicate 16 (Ck.int IntKind.u8)) ++ [CV.sl (E.lit (-1)) (E.lit 0) (E.lit 0) (E.lit 0)]) → Value.agg (List.map (CV.ev q10) z).toArray = stV ((openL D 1 (playsN nn)).serial + 1) (openL D 1 (playsN nn)).note (.slice none 0 0) := by
        rintro z rfl
        rw [List.map_append, List.map_append, wn]
        show Value.agg ([Value.int .u64 (IntKind.u64.wrap (q10.i 51 + 1))] ++ bys (openL D 1 (playsN nn)).note ++ [Value.slice (slP (-1) 0) (Int.toNat 0) (Int.toNat 0)]).toArray = _
        rw [w51, wrap_u64 (by omega) (by omega), slP_nil]
        rfl
      have hv10' : Value.agg (List.map (CV.ev q10) (ckCVs 77 ([Ck.int IntKind.u64] ++ List.replicate 16 (Ck.int IntKind.u8) ++ [Ck.sl]))).toArray = stV ((openL D 1 (playsN nn)).serial + 1) (openL D 1 (playsN nn)).note sl10 := hv10
      have hnilR : ∀ R' : Hl, RdB R' (.slice none 0 0) [] := fun R' => ⟨-1, 0, 0, by rw [slP_nil]; rfl, Int.le_refl _, Or.inl ⟨rfl, rfl⟩⟩
      rw [hv10', hwant _ rfl]
      refine ⟨same_pre hn16 hn16 hO10.rd (hnilR _), fun q11 g11 ⟨F11, hp11, _, _⟩ => ?_⟩
      have h : q11.b 98 = true := hsame hn16 hO10.rd (hnilR _) hp11
      rw [h]
      have G11 : Agree 50 q q11 := G10.trans (g11.mono (by omega))
      refine ⟨fun h => absurd rfl h, fun _ => inv1 q11 40 41 75 74 D2 G11 ?_ ?_ hM2 hn2⟩
      · rw [g11.h 75 (by omega), g10.h 75 (by omega)]; exact hDa
      · rw [g11.h 74 (by omega), g10.h 74 (by omega), (keep q11 G11).2.2.2.2.2.1, (keep q11 G11).2.2.2.2.2.2.1]; exact hLa
    · -- Write, crash, open
      obtain ⟨k1, k2, k42, k5, kd, k40, k41, k43, k44⟩ := keep q8 G8
      rw [c3, sl_parts hsl]
      refine ⟨⟨0, u, b, R, rfl, rfl, hrd⟩, fun q9 g9 ⟨F9, ⟨c9, u9, b9, R9, hx9, hR9, hrd9, hO9⟩, hF9, hn9⟩ => ?_⟩
      have hx9 : 0 = c9 ∧ u = u9 := by simpa using hx9
      obtain ⟨hxa, hxb⟩ := hx9
      subst hxa hxb
      have hR9 : R = R9 := by simpa using hR9
      subst hR9
      have e := hrd9.uniq hrd
      subst e
      have hF9 := hF9 trivial
      subst hF9
      have G9 : Agree 50 q q9 := G8.trans (g9.mono (by omega))
      obtain ⟨k1, k2, k42, k5, kd, k40, k41, k43, k44⟩ := keep q9 G9
      rw [hdq q9 G9, k1, k2, k42, k5, c2, k43]
      have hfl : (fullL 0 b9).length = 64 := fullL_length 0 b9
      refine ⟨⟨_, oi, _, fullL 0 b9, _, _, D, rfl, rfl, rfl, hD, hO9.rd⟩, fun q10 g10 ⟨F10, ⟨p4, i4, u4, b4, H4, R4, D4, H4', hx4, hH4, hR4, hD4, hB4, hK4, hDy, hv4⟩, _, _⟩ q11 g11 pA => ?_⟩
      have hx4 : dP q = p4 ∧ oi = i4 ∧ Value.slice (slP (q9.i 74) (q9.i 75)) (q9.i 76).toNat (q9.i 77).toNat = u4 := by
        have h1 : [dP q, Value.int .i64 oi, Value.slice (slP (q9.i 74) (q9.i 75)) (q9.i 76).toNat (q9.i 77).toNat] = [p4, Value.int .i64 i4, u4] := hx4
        simpa using h1
      obtain ⟨hxa, hxb, hxc⟩ := hx4
      subst hxa hxb hxc
      have hH4 : q.h 43 = H4 := by simpa using hH4
      subst hH4
      have hR4 : q9.h 74 = R4 := by simpa using hR4
      subst hR4
      have e := hD.uniq hD4
      subst e
      have e := hB4.uniq hO9.rd
      subst e
      have hK4 : q10.h 78 = H4' := by
        have h1 : [q10.h 78] = [H4'] := hK4
        simpa using h1
      rw [← hK4] at hDy
      obtain ⟨hwok, hwb, hwn, hLw⟩ := hM.write oi hfl (full_byte (by omega) hbb)
      obtain ⟨Dw, hDwe⟩ : ∃ Dw, Dw = (writeR D oi (fullL 0 b9)).2 := ⟨_, rfl⟩
      rw [← hDwe] at hwok hwb hwn hLw hDy
      have G11 : Agree 50 q q11 := (G9.trans (g10.mono (by omega))).trans (g11.mono (by omega))
      have hDw : DiskAt (q11.h 78) (dP q) Dw := by rw [g11.h 78 (by omega)]; exact hDy
      -- crash and open: disk piece 78, block 80, crash 81, open 83
      obtain ⟨k1, k2, k42, k5, kd, k40, k41, k43, k44⟩ := keep q11 G11
      have hrd64 : RdW (Hl.one (q11.i 80).toNat (.cells #[Value.int .u8 64] 5 (0, 0))) (.slice (slP (q11.i 80) 0) (Int.toNat 1) (Int.toNat 1)) [64] := by
        refine ⟨q11.i 80, 0, 1, rfl, Int.le_refl _, Or.inr ⟨pA, fun j z hz => ?_⟩⟩
        rw [Hl.one_cell]
        match j with
        | 0 => cases hz; rfl
      rw [hdq q11 G11]
      refine ⟨⟨_, _, [64], _, _, Dw, rfl, rfl, rfl, hDw, hrd64, fun z hz => by rw [List.mem_singleton] at hz; subst hz; decide, hLw⟩, fun q20 g20 ⟨F20, ⟨p20, u20, bs20, H20, R20, D20, H20', hx20, hH20, hR20, hD20, hrd20, hK20, hDy20⟩, _, _⟩ => ?_⟩
      have hx20 : dP q = p20 ∧ Value.slice (slP (q11.i 80) 0) (Int.toNat 1) (Int.toNat 1) = u20 := by simpa using hx20
      obtain ⟨hxa, hxb⟩ := hx20
      subst hxa hxb
      have hH20 : q11.h 78 = H20 := by simpa using hH20
      subst hH20
      have hR20 : Hl.one (q11.i 80).toNat (.cells #[Value.int .u8 64] 5 (0, 0)) = R20 := by simpa using hR20
      subst hR20
      have e := hD20.uniq hDw
      subst e
      have e := hrd20.uniq hrd64
      subst e
      have hK20 : q20.h 81 = H20' := by
        have h1 : [q20.h 81] = [H20'] := hK20
        simpa using h1
      rw [← hK20] at hDy20
      have hMc : Mir (crashD D20 [64]) 1 (playsN nn) := Mir.crash hwok hwb ⟨by omega, by rw [hwn]; omega⟩
      have hcn : (crashD D20 [64]).n = D.n := hwn
      have G20 : Agree 50 q q20 := G11.trans (g20.mono (by omega))
      have P20 : Agree 6 ρ q20 := P.trans (G20.mono (by omega))
      rw [hdq q20 G20, P20.i 0 (by omega), v0, eN]
      refine ⟨⟨_, 1, _, _, _, rfl, rfl, hDy20⟩, fun q21 g21 ⟨F21, hp21, hF21, _⟩ => ?_⟩
      have hF21 := hF21 trivial
      obtain ⟨pv, hD21, hv21, hl21, _⟩ := open_post hDy20 hp21
      have hoe : openE (crashD D20 [64]) 1 (playsN nn) = 0 := hMc.openE
      have hl21 := hl21 hoe
      rw [hoe] at hv21
      simp only [Value.tuple.injEq, Array.mk.injEq, List.cons.injEq, Value.int.injEq, true_and, and_true] at hv21
      obtain ⟨rfl, h0⟩ := hv21
      rw [← hF21] at hl21
      rw [h0]
      exact ⟨fun h => absurd rfl h, fun _ => inv1 q21 83 84 83 84 _ (G20.trans (g21.mono (by omega))) hD21 hl21 hMc hcn⟩
    · -- crash, open
      intro q9 g9 pA
      have G9 : Agree 50 q q9 := G8.trans (g9.mono (by omega))
      have hDw : DiskAt (q9.h 43) (dP q) D := by rw [(keep q9 G9).2.2.2.2.2.2.2.1]; exact hD
      have hwok := hM.sure.ok
      have hwb := hM.byte
      obtain ⟨Dw, hDwe⟩ : ∃ Dw, Dw = D := ⟨_, rfl⟩
      have hwn : Dw.n = D.n := by rw [hDwe]
      have hLw : Dw.loose.length ≤ 1000000 := by rw [hDwe, hM.loose]; simp
      rw [← hDwe] at hwok hwb hDw
      -- crash and open: disk piece 43, block 74, crash 75, open 77
      obtain ⟨k1, k2, k42, k5, kd, k40, k41, k43, k44⟩ := keep q9 G9
      have hrd64 : RdW (Hl.one (q9.i 74).toNat (.cells #[Value.int .u8 64] 5 (0, 0))) (.slice (slP (q9.i 74) 0) (Int.toNat 1) (Int.toNat 1)) [64] := by
        refine ⟨q9.i 74, 0, 1, rfl, Int.le_refl _, Or.inr ⟨pA, fun j z hz => ?_⟩⟩
        rw [Hl.one_cell]
        match j with
        | 0 => cases hz; rfl
      rw [hdq q9 G9]
      refine ⟨⟨_, _, [64], _, _, Dw, rfl, rfl, rfl, hDw, hrd64, fun z hz => by rw [List.mem_singleton] at hz; subst hz; decide, hLw⟩, fun q20 g20 ⟨F20, ⟨p20, u20, bs20, H20, R20, D20, H20', hx20, hH20, hR20, hD20, hrd20, hK20, hDy20⟩, _, _⟩ => ?_⟩
      have hx20 : dP q = p20 ∧ Value.slice (slP (q9.i 74) 0) (Int.toNat 1) (Int.toNat 1) = u20 := by simpa using hx20
      obtain ⟨hxa, hxb⟩ := hx20
      subst hxa hxb
      have hH20 : q9.h 43 = H20 := by simpa using hH20
      subst hH20
      have hR20 : Hl.one (q9.i 74).toNat (.cells #[Value.int .u8 64] 5 (0, 0)) = R20 := by simpa using hR20
      subst hR20
      have e := hD20.uniq hDw
      subst e
      have e := hrd20.uniq hrd64
      subst e
      have hK20 : q20.h 75 = H20' := by
        have h1 : [q20.h 75] = [H20'] := hK20
        simpa using h1
      rw [← hK20] at hDy20
      have hMc : Mir (crashD D20 [64]) 1 (playsN nn) := Mir.crash hwok hwb ⟨by omega, by rw [hwn]; omega⟩
      have hcn : (crashD D20 [64]).n = D.n := hwn
      have G20 : Agree 50 q q20 := G9.trans (g20.mono (by omega))
      have P20 : Agree 6 ρ q20 := P.trans (G20.mono (by omega))
      rw [hdq q20 G20, P20.i 0 (by omega), v0, eN]
      refine ⟨⟨_, 1, _, _, _, rfl, rfl, hDy20⟩, fun q21 g21 ⟨F21, hp21, hF21, _⟩ => ?_⟩
      have hF21 := hF21 trivial
      obtain ⟨pv, hD21, hv21, hl21, _⟩ := open_post hDy20 hp21
      have hoe : openE (crashD D20 [64]) 1 (playsN nn) = 0 := hMc.openE
      have hl21 := hl21 hoe
      rw [hoe] at hv21
      simp only [Value.tuple.injEq, Array.mk.injEq, List.cons.injEq, Value.int.injEq, true_and, and_true] at hv21
      obtain ⟨rfl, h0⟩ := hv21
      rw [← hF21] at hl21
      rw [h0]
      exact ⟨fun h => absurd rfl h, fun _ => inv1 q21 77 78 77 78 _ (G20.trans (g21.mono (by omega))) hD21 hl21 hMc hcn⟩
    · -- what stands in the sectors
      obtain ⟨Dl, hDl, hLl, hMl, hnl'⟩ := hI
      have Gl : Agree 50 q ql := G8.trans (gl.mono (by omega))
      have hd := (keep ql Gl).2.2.2.2.1
      rw [hd] at hDl hLl
      rw [hdq ql Gl]
      have hszl : (openB Dl 1 (playsN nn)).length ≤ 1048576 := hMl.size.2
      refine ⟨⟨_, _, Dl, rfl, rfl, hDl⟩, fun q9 g9 ⟨F9, hp9, _, _⟩ => ?_⟩
      obtain ⟨H9, hK9, hD9, hv9⟩ := disk_num hDl hp9
      have hK9 : q9.h 210 = H9 := by
        have h1 : [q9.h 210] = [H9] := hK9
        simpa using h1
      rw [← hK9] at hD9
      have h210 : q9.i 210 = 0 := by
        have h : q9.i 210 = (Dl.loose.length : Int) := by simpa using hv9
        rw [h, hMl.loose]; rfl
      have G9 : Agree 50 q q9 := Gl.trans (g9.mono (by omega))
      rw [h210, g9.i 200 (by omega), g9.i 201 (by omega), g9.h 204 (by omega)]
      refine ⟨fun _ => ⟨state_pre hLl hszl, fun q10 g10 ⟨F10, hp10, hF10, _⟩ => ?_⟩, fun h => absurd rfl h⟩
      obtain ⟨sl10, hv10, hO10⟩ := state_post hLl hp10
      have hF10 := hF10 trivial
      rw [← hF10] at hO10
      have G10 : Agree 50 q q10 := G9.trans (g10.mono (by omega))
      rw [hdq q10 G10, g10.h 210 (by omega)]
      refine ⟨⟨_, 1, _, Dl, rfl, rfl, hD9, hMl.sure.gone, by omega, by omega⟩, fun q11 g11 ⟨F11, ⟨p', f', H', D', H2, hx, hH, hD', hH2, hD2, hSl⟩, hF11, hn11⟩ => ?_⟩
      have hx : dP q = p' ∧ (1 : Int) = f' := by
        have h1 : [dP q, Value.int .i64 1] = [p', Value.int .i64 f'] := hx
        simpa using h1
      obtain ⟨hxa, hxb⟩ := hx
      subst hxa hxb
      have hH : q9.h 210 = H' := by simpa using hH
      subst hH
      have e := hD9.uniq hD'
      subst e
      have hH2 : q11.h 233 = H2 := by
        have h1 : [q11.h 233] = [H2] := hH2
        simpa using h1
      rw [← hH2] at hD2
      have hF11 := hF11 trivial
      rw [← hF11] at hSl
      obtain ⟨N, hNn⟩ : ∃ N : Nat, playsN nn = N := ⟨(playsN nn).toNat, by omega⟩
      have hN3 : 3 ≤ N := by omega
      have hfN : (1 : Int) + N ≤ Dl.n := by omega
      rw [show ((Dl.n : Int) - 1).toNat = N by omega] at hSl
      refine ⟨⟨_, rowsOf Dl 1 N, _, rfl, rfl, hSl, by rw [rowsOf_length]; omega, by rw [rowsOf_length]; omega, fun r hr => ?_⟩, fun q12 g12 ⟨F12, ⟨v12, rows12, R12, sl12, hx12, hR12, hS12, hv12, hO12⟩, hF12, _⟩ => ?_⟩
      · unfold rowsOf at hr
        obtain ⟨j, hj, rfl⟩ := List.mem_map.1 hr
        have hj := List.mem_range.1 hj
        refine ⟨sector_length hMl.sure.ok (by unfold DM.has; simp only [decide_eq_true_eq]; omega), fun b' hb' => hMl.byte b' ?_⟩
        unfold DM.sector at hb'
        exact List.mem_of_mem_drop (List.mem_of_mem_take hb')
      have hx12 : Value.slice (slP (q11.i 233) (q11.i 234)) (q11.i 235).toNat (q11.i 236).toNat = v12 := by simpa using hx12
      subst hx12
      have hR12 : q11.h 234 = R12 := by simpa using hR12
      subst hR12
      have e := hS12.uniq hSl
      subst e
      have hF12 := hF12 trivial
      rw [← hF12] at hO12
      have hofh : ofH (rowsOf Dl 1 N) = openH Dl 1 (playsN nn) := by rw [of_open hMl.sure (by omega) hN3 hfN, hNn]
      have hofb : ofB (rowsOf Dl 1 N) = openB Dl 1 (playsN nn) := by rw [ofB_open hMl.sure (by omega) hN3 hfN, hNn]
      rw [hofh] at hv12
      rw [hofb] at hO12
      have hnl16 : (openL Dl 1 (playsN nn)).note.length = 16 := hMl.note16
      have A12 : Agree 233 q10 q12 := g11.trans (g12.mono (by omega))
      have hv10' : Value.agg (List.map (CV.ev q12) (ckCVs 212 ([Ck.int IntKind.u64] ++ List.replicate 16 (Ck.int IntKind.u8) ++ [Ck.sl]))).toArray = stV (openL Dl 1 (playsN nn)).serial (openL Dl 1 (playsN nn)).note sl10 := by
        have e : List.map (CV.ev q12) (ckCVs 212 stk) = List.map (CV.ev q10) (ckCVs 212 stk) := CV.agreeL (A12.mono (by decide)) _ (ckCVs_upto stk 212)
        show Value.agg (List.map (CV.ev q12) (ckCVs 212 stk)).toArray = _
        rw [e]; exact hv10
      have hv12' : Value.agg (List.map (CV.ev q12) (ckCVs 237 ([Ck.int IntKind.u64] ++ List.replicate 16 (Ck.int IntKind.u8) ++ [Ck.sl]))).toArray = stV (openL Dl 1 (playsN nn)).serial (openL Dl 1 (playsN nn)).note sl12 := hv12
      rw [hv10', hv12', A12.h 212 (by omega)]
      refine ⟨same_pre hnl16 hnl16 hO10.rd hO12.rd, fun q13 g13 ⟨F13, hp13, _, _⟩ => ?_⟩
      have h : q13.b 258 = true := hsame hnl16 hO10.rd hO12.rd hp13
      have B13 : Agree 210 ql q13 := (g9.mono (by omega)).trans ((g10.mono (by omega)).trans ((A12.mono (by omega)).trans (g13.mono (by omega))))
      rw [h, B13.i 200 (by omega), B13.i 201 (by omega), B13.h 204 (by omega)]
      refine ⟨fun _ => ⟨over_pre hLl, fun q14 g14 ⟨F14, hp14, _, _⟩ => ?_⟩, fun h => absurd rfl h⟩
      have h259 := over_post hLl hp14
      have h259 : q14.b 259 = false := by
        have h : Value.bool (q14.b 259) = .bool (openL Dl 1 (playsN nn)).over := h259
        simpa [openL, headL] using h
      rw [h259]
      have B14 : Agree 210 ql q14 := B13.trans (g14.mono (by omega))
      have G14 : Agree 50 q q14 := Gl.trans (B14.mono (by omega))
      refine ⟨fun h => absurd h (by simp), fun _ => back q14 200 201 233 204 Dl G14 ?_ ?_ hMl (by omega)⟩
      · rw [g14.h 233 (by omega), g13.h 233 (by omega), g12.h 233 (by omega)]; exact hD2
      · rw [B14.h 204 (by omega), B14.i 200 (by omega), B14.i 201 (by omega)]; exact hLl
end Go.Proofs.Ytnpepkjfeadbjaa
