/- Layer 22: ask.Parse is as its contract says. Condition: at most a million bytes. -/
import Derived.Test.YtkdllpialpfopaaAqQ
set_option linter.unusedSimpArgs false
set_option linter.unusedVariables false
set_option linter.constructorNameAsVariable false
namespace Go.Proofs.Ytkdllpialpfopaa
open Go Go.Sx Go.Pk

theorem qpg0 : qpΓ[0]? = some readPS := rfl
theorem qpg1 : qpΓ[1]? = some numS := rfl
theorem qpg4 : qpΓ[4]? = some overS := rfl
theorem qpg7 : qpΓ[7]? = some takePcS := rfl
theorem qpg8 : qpΓ[8]? = some takeVecS := rfl
theorem qpg9 : qpΓ[9]? = some takeWishS := rfl
theorem qpg10 : qpΓ[10]? = some (formQ 9) := rfl
theorem qpr7 : takePcS.res = [.agg pk2] := rfl
theorem qpr8 : takeVecS.res = [.agg (List.replicate 6 (.int .u64))] := rfl
theorem qpr9 : takeWishS.res = [.agg [.bool, .sl]] := rfl
theorem qpr10 (f : FuncId) : (formQ f).res = [.one .bool] := rfl
theorem ckLen_qpk : (Cp.agg pk2).len = 132 := by kernel_rfl
theorem ckLen_v6 : (Cp.agg (List.replicate 6 (.int .u64))).len = 6 := by kernel_rfl
theorem ckLen_ws : (Cp.agg [.bool, .sl]).len = 5 := by kernel_rfl
theorem roots_pk : (cpRoots 0 [Cp.agg pk2] ≠ []) = True := by
  have e : cpRoots 0 [Cp.agg pk2] = [.var 53, .var 128] := by kernel_rfl
  rw [e]; simp
theorem roots_v6 : (cpRoots 0 [Cp.agg (List.replicate 6 (.int .u64))] ≠ []) = False := by
  have e : cpRoots 0 [Cp.agg (List.replicate 6 (.int .u64))] = [] := by kernel_rfl
  rw [e]; simp
theorem roots_ws : (cpRoots 0 [Cp.agg [.bool, .sl]] ≠ []) = True := by
  have e : cpRoots 0 [Cp.agg [.bool, .sl]] = [.var 1] := by kernel_rfl
  rw [e]; simp
section
variable {q : Env} {n : Nat} {p : Value} {H : Hl} {s : PS} {K : Env → Prop} {A : Env → Hl → Prop}
theorem iOver (h : InP H p s) (k : ∀ q', Agree n q q' → ((q'.b n = true) = (s.bad = false ∧ s.l = [])) → K q') :
    overS.pre [p] [] [H] ∧ ∀ q', Agree n q q' → (∃ F, overS.post [p] [] [H] (.bool (bev q' (.bvar n))) [] F ∧ A q' F) → K q' := by
  refine ⟨⟨_, H, s.l, s.bad, rfl, rfl, h⟩, fun q' g ⟨F, ⟨p', R', bs', bad', e1, e2, hO', hv⟩, _⟩ => k q' g ?_⟩
  simp only [List.cons.injEq, and_true] at e1 e2
  subst e1 e2
  obtain ⟨e3, e4⟩ := h.uniq hO'
  subst e3 e4
  simp only [Value.bool.injEq, bev_bvar] at hv
  rw [hv]
  simp
theorem iFormQ {f : FuncId} {row : List Value} {R1 R2 R3 : Hl} {r : Rq} (hx : IsRq R1 R2 R3 row r) (k : ∀ q', Agree n q q' → ((q'.b n = true) = r.Form) → K q') :
    (formQ f).pre [.agg row.toArray] [] [R1, R2, R3] ∧ ∀ q', Agree n q q' → (∃ F, (formQ f).post [.agg row.toArray] [] [R1, R2, R3] (.bool (bev q' (.bvar n))) [] F ∧ A q' F) → K q' :=
  ⟨⟨row, R1, R2, R3, r, rfl, rfl, hx⟩, fun q' g ⟨_, hp, _⟩ => k q' g (formQ_res hx hp)⟩
end
def nz6 : List Int := [0, 0, 0, 0, 0, 0]
def nilV : Value := .slice none 0 0
def zpc : List Value := zrow ++ [nilV]
def prow (q : Env) (n : Nat) : List Value := (ckCVs n pk2).map (CV.ev q)
theorem qR1_ev (q : Env) : qR1.map (CV.ev q) = rqRow (q.i 8) (IntKind.i64.wrap (q.i 10)) (prow q 13) nz6 false nilV 0 0 0 := by kernel_rfl
theorem qR2_ev (q : Env) : qR2.map (CV.ev q) = rqRow (q.i 8) (IntKind.i64.wrap (q.i 10)) zpc [q.i 13, q.i 14, q.i 15, q.i 16, q.i 17, q.i 18] (q.b 19) (.slice (slP (q.i 20) (q.i 21)) (q.i 22).toNat (q.i 23).toNat) (IntKind.i64.wrap (q.i 24)) 0 0 := by kernel_rfl
theorem qR3_ev (q : Env) : qR3.map (CV.ev q) = rqRow (q.i 8) (IntKind.i64.wrap (q.i 10)) zpc nz6 false nilV 0 (IntKind.i64.wrap (q.i 13)) (q.i 15) := by kernel_rfl
theorem qR0_ev (q : Env) : qR0.map (CV.ev q) = rqRow (q.i 8) (IntKind.i64.wrap (q.i 10)) zpc nz6 false nilV 0 0 0 := by kernel_rfl
theorem qRZ_ev (q : Env) : qRZ.map (CV.ev q) = qzrow := by kernel_rfl
theorem nil_rdW (R : Hl) : RdW R nilV [] := ⟨-1, 0, 0, rfl, Int.le_refl _, Or.inl rfl⟩
theorem zpc_is (R1 R2 : Hl) : IsPc R1 R2 zpc ⟨hz, []⟩ := by
  refine ⟨rowOK_app (kb := [.slice]) zrow_ok ⟨rfl, trivial⟩, ?_, ?_, fun z h => (by cases h), Nat.zero_le _⟩
  · have e : zpc.take 125 = zrow := by kernel_rfl
    rw [e]; exact hz_is _
  · have e : zpc.getD 125 noV = nilV := by kernel_rfl
    rw [e]; exact nil_rdW _
theorem nil_rows (R : Hl) : RdRows R nilV tkd (([] : List (List Int)).map bys) := (OwR.nil R 0 tkd).rd
theorem nil_toks : toksIn [] := ⟨by simp, fun t h => by cases h⟩
theorem nz6_in : u64s nz6 := by
  intro z hz
  have : z = 0 := by simpa [nz6] using hz
  omega
theorem zpc_norm : ∀ v ∈ zpc, normV v := by
  intro v hv
  rcases List.mem_append.1 hv with hv | hv
  · rcases zrow_mem v hv with rfl | rfl | rfl | rfl | rfl <;> trivial
  · rw [List.mem_singleton] at hv; subst hv; trivial
theorem rq_norm {id kind most writer seq : Int} {pr : List Value} {cur : List Int} {all : Bool} {u : Value} (hp : ∀ v ∈ pr, normV v) (hu : normV u) : ∀ v ∈ rqRow id kind pr cur all u most writer seq, normV v := by
  intro v hv
  unfold rqRow at hv
  simp only [List.mem_append, List.mem_cons, List.mem_nil_iff, or_false] at hv
  rcases hv with (rfl | rfl) | hv | hv | rfl | rfl | rfl | rfl | rfl
  · trivial
  · trivial
  · exact hp v hv
  · unfold us at hv
    obtain ⟨z, _, rfl⟩ := List.mem_map.1 hv
    trivial
  · trivial
  · exact hu
  · trivial
  · trivial
  · trivial
theorem pc_norm {q : Env} {n : Nat} (h : cpNorms n [.agg pk2] q) : (-1 ≤ q.i (n + 53) ∧ 0 ≤ q.i (n + 54) ∧ 0 ≤ q.i (n + 55) ∧ 0 ≤ q.i (n + 56)) ∧ (-1 ≤ q.i (n + 128) ∧ 0 ≤ q.i (n + 129) ∧ 0 ≤ q.i (n + 130) ∧ 0 ≤ q.i (n + 131)) := by
  have h : ckNorms n pk2 q := h.1
  have e1 : pk2 = pk2.take 53 ++ (.sl :: pk2.drop 54) := by kernel_rfl
  have e2 : pk2 = pk2.take 125 ++ (.sl :: pk2.drop 126) := by kernel_rfl
  have g : ∀ (a b : List Ck) (n : Nat), ckNorms n (a ++ b) q → ckNorms (n + ckLen a) b q := by
    intro a
    induction a with
    | nil => intro b n h; simpa [ckLen] using h
    | cons k a ih =>
      intro b n h
      have := ih b (n + k.len) h.2
      rw [show n + k.len + ckLen a = n + ckLen (k :: a) by simp [ckLen]; omega] at this
      exact this
  have h1 := g _ _ _ (e1 ▸ h)
  have h2 := g _ _ _ (e2 ▸ h)
  rw [show ckLen (pk2.take 53) = 53 by kernel_rfl] at h1
  rw [show ckLen (pk2.take 125) = 128 by kernel_rfl] at h2
  exact ⟨h1.1, h2.1⟩
theorem prow_eq (q : Env) (n : Nat) : prow q n = hrow q n ++ [.slice (slP (q.i (n + 128)) (q.i (n + 129))) (q.i (n + 130)).toNat (q.i (n + 131)).toNat] := by kernel_rfl
theorem prow_norm {q : Env} {n : Nat} (h : cpNorms n [.agg pk2] q) : ∀ v ∈ prow q n, normV v := by
  intro v hv
  obtain ⟨h1, h2⟩ := pc_norm h
  rw [prow_eq] at hv
  rcases List.mem_append.1 hv with hv | hv
  · exact hrow_norm h1.1 v hv
  · rw [List.mem_singleton] at hv; subst hv; exact normV_bp h2.1
/-- What is parsed, when it is known what there is behind the parts. -/
theorem no_of {b : List Int} (hn : ∀ R1 R2 R3 row r, IsRq R1 R2 R3 row r → Prs b r → ¬ (((aF b).bad = false ∧ (aF b).l = []) ∧ r.Form)) {S1 S2 S3 : Hl} {row : List Value} {r : Rq} (hx : IsRq S1 S2 S3 row r) (hp : Prs b r) : ∀ R1 R2 R3 row r, IsRq R1 R2 R3 row r → r.Form → qB r ≠ b := by
  rintro R1 R2 R3 row' r' hx' hf' rfl
  obtain ⟨l1, l2, l3⟩ := lawRB hx' hf'
  exact hn _ _ _ _ _ hx hp ⟨⟨l1, l2⟩, l3 _ _ _ _ _ hp hx⟩
theorem no_one {b : List Int} {S1 S2 S3 : Hl} {row : List Value} {r : Rq} (hx : IsRq S1 S2 S3 row r) (hp : Prs b r) (hn : ¬ (((aF b).bad = false ∧ (aF b).l = []) ∧ r.Form)) : ∀ R1 R2 R3 row r, IsRq R1 R2 R3 row r → r.Form → qB r ≠ b := by
  rintro R1 R2 R3 row' r' hx' hf' rfl
  obtain ⟨l1, l2, l3⟩ := lawRB hx' hf'
  exact hn ⟨⟨l1, l2⟩, l3 _ _ _ _ _ hp hx⟩
section
variable {x y : Int} {b : List Int} {c : Nat} {R : Hl}
theorem zPost (hRd : RdW R (.slice (slP x y) b.length c) b) {qq : Env} {mem : Mem} (hno : ∀ R1 R2 R3 row r, IsRq R1 R2 R3 row r → r.Form → qB r ≠ b) : postOf qParseS [.slice (slP x y) b.length c] [] [R] qq mem (.tup [.agg qRZ, .one (.int .i64 (.lit 2))]) := by
  intro _
  have ev : (TV.tup [SV.agg qRZ, SV.one (CV.int IntKind.i64 (E.lit 2))]).ev qq = .tuple #[.agg qzrow.toArray, .int .i64 2] := by
    show Value.tuple #[.agg (qRZ.map (CV.ev qq)).toArray, .int .i64 2] = _
    rw [qRZ_ev]
  obtain ⟨r0, hr0, _⟩ := mkRq (R1 := Hl.none) (R2 := Hl.none) (R3 := Hl.none) (id := 0) (kind := 0) (most := 0) (writer := 0) (seq := 0) (all := false) (u := nilV) (w := []) (cur := nz6) (zpc_is _ _) rfl nz6_in (by omega) (by unfold i64in; omega) (by unfold i64in; omega) (by unfold i64in; omega) (by omega) (nil_rows _) nil_toks
  obtain ⟨ρ2, h2, hn2⟩ := shape_row_int (ks := qk2) (row := qzrow) (k := .i64) 2 hr0.ok (by kernel_rfl) (rq_norm zpc_norm trivial)
  exact ⟨[], [], rfl, rfl, ⟨ρ2, ev.trans h2.symm, hn2⟩, _, b, R, rfl, rfl, hRd, Or.inr ⟨ev, hno⟩⟩
theorem yPost (hRd : RdW R (.slice (slP x y) b.length c) b) {qq : Env} {mem : Mem} {V : List CV} {row : List Value} {r : Rq} {f : List Nat} (hok : okIdx mem [] f = true) (he : V.map (CV.ev qq) = row) (hnm : ∀ v ∈ row, normV v)
    (hx : (∀ (p q : Nat) r s, p ≠ q → mem[p]? = some r → mem[q]? = some s → r.own = true → (r.hl qq).dis (s.hl qq)) → IsRq (uni qq mem f) (uni qq mem f) (uni qq mem f) row r) (hf : r.Form) (hb : qB r = b) :
    postOf qParseS [.slice (slP x y) b.length c] [] [R] qq mem (.tup [.agg V, .one (.int .i64 (.lit 0))]) := by
  intro hd
  have hx := hx hd
  have ev : (TV.tup [SV.agg V, SV.one (CV.int IntKind.i64 (E.lit 0))]).ev qq = .tuple #[.agg row.toArray, .int .i64 0] := by
    show Value.tuple #[.agg (V.map (CV.ev qq)).toArray, .int .i64 0] = _
    rw [he]
  obtain ⟨ρ2, h2, hn2⟩ := shape_row_int (ks := qk2) (row := row) (k := .i64) 0 hx.ok (by kernel_rfl) hnm
  exact ⟨[], f, rfl, hok, ⟨ρ2, ev.trans h2.symm, hn2⟩, _, b, R, rfl, rfl, hRd, Or.inl ⟨row, r, ev, hx, hf, hb⟩⟩
end
theorem qParseS_ok : qParseS.OK Try.prog := by
  refine Spec.of_fn (Γ := qpΓ) qpΓ_ok ?_
  rintro xs Hs Rs hl1 hl2 ⟨u, b, R, rfl, rfl, hRd, hby, hlen⟩
  have e0 : Hs = [] := List.length_eq_zero_iff.1 hl1
  subst e0
  obtain ⟨x, y, c, rfl, hy, hR⟩ := id hRd
  refine ⟨qParW, envI [x, y, b.length, c] false [Hl.none, Hl.none, Hl.none, Hl.none, R], fun _ _ => True, fun _ _ => 0, ?_, ⟨?_, ?_, ?_, ?_⟩, (fun _ h => nomatch h), ?_⟩
  · show [Value.slice (slP x y) ((b.length : Int)).toNat ((c : Int)).toNat] = _
    rw [Int.toNat_natCast, Int.toNat_natCast]
  · intro r hr ho; simp [qParW] at hr; subst hr; cases ho
  · intro r hr ho; simp [qParW] at hr; subst hr; exact ⟨R, by simp, Hl.le_refl _⟩
  · simp [qParW]
  · intro r hr; simp [qParW] at hr; subst hr; trivial
  · show Nd.holds _ _ _ qParNd
    generalize hρ : envI [x, y, b.length, c] false [Hl.none, Hl.none, Hl.none, Hl.none, R] = ρ
    have v0 : ρ.i 0 = x := by rw [← hρ]; rfl
    have v1 : ρ.i 1 = y := by rw [← hρ]; rfl
    have v2 : ρ.i 2 = b.length := by rw [← hρ]; rfl
    have v3 : ρ.i 3 = c := by rw [← hρ]; rfl
    have w4 : ρ.h 4 = R := by rw [← hρ]; rfl
    clear hρ
    unfold qParNd
    simp only [Nd.holds, X.pre, X.rel, X.n, Src.ok, Src.len, Src.vals, true_and, and_true, if_true, Nat.mul_one, Nat.add_zero, Nat.reduceAdd, List.length_cons, List.length_nil, bT_tt, bT_ff, bT_bvar, bT_not, bT_and, bT_or, bT_ite, bT_lt, bT_le, bT_eq, bT_beq, bT_seq, bT_hB, bT_his, bT_hby, bT_hism, bT_hks, iev_lit, iev_var, iev_add, iev_sub, iev_mul, iev_wrap, iev_ite, iev_hI, iev_hP, iev_hmlen, sev_ite, sev_slit, sev_sof, sev_svar, TV.ev, SV.ev, CV.ev, List.map_cons, List.map_nil, Res.hl, cpTV, Cp.sv, Ck.cv, cpSVs, Cp.len, Ck.len, newHs_zero, newHs_one, roots_ne, qpg0, pr0, qpg1, pr1, qpg4, pr4, qpg7, qpr7, qpg8, qpr8, qpg9, qpr9, qpg10, qpr10, pc0, pc1, rcc0, ckLen_qpk, ckLen_v6, ckLen_ws, roots_pk, roots_v6, roots_ws]
    intro q0 g0 _
    simp only [g0.i, g0.h, Nat.reduceLT, v0, v1, v2, v3, w4, Int.toNat_natCast]
    refine ⟨⟨_, b, R, rfl, rfl, hRd, hby, hlen⟩, fun q1 g1 ⟨F1, hp1, hF1, _⟩ => ?_⟩
    have h1 : InP (q1.h 6) (.pointer (slP (q1.i 6) (q1.i 7))) ⟨b, false⟩ := by
      obtain ⟨u', b', R', e1, e2, hR', hO⟩ := hp1
      simp only [List.cons.injEq, and_true] at e1 e2
      subst e1 e2
      rw [hRd.uniq hR', hF1 trivial]; exact hO
    refine iNum h1 fun q2 g2 h2 v8 => ?_
    have h2 : InP (q2.h 8) _ (a1 b) := h2
    rw [← g2.i 6 (by omega), ← g2.i 7 (by omega)] at h2
    refine iNum h2 fun q3 g3 h3 v10 => ?_
    have h3 : InP (q3.h 10) _ (a2 b) := h3
    have v10 : q3.i 10 = aK b := v10
    rw [← g3.i 6 (by omega), ← g3.i 7 (by omega)] at h3
    rw [← g3.i 8 (by omega)] at v8
    intro q4 g4 _
    rw [← g4.h 10 (by omega), ← g4.i 6 (by omega), ← g4.i 7 (by omega)] at h3
    rw [← g4.i 8 (by omega)] at v8
    rw [← g4.i 10 (by omega)] at v10
    have hK : 0 ≤ aK b ∧ aK b ≤ 3 := vNum_in (s := a1 b) (m := 3) (by omega)
    have h8 := vNum_in (s := ⟨b, false⟩) (m := 18446744073709551615) (by omega)
    have wK : IntKind.i64.wrap (q4.i 10) = aK b := by rw [v10, IntWalk.i64_in _ (by omega)]
    have b2 : bytes256 (a2 b).l := num256 (num256 (s := ⟨b, false⟩) hby)
    have iK : i64in (aK b) := by unfold i64in; omega
    have i0 : i64in 0 := by unfold i64in; omega
    rw [wK]
    clear g0 g1 g2 g3 hp1 hF1
    refine ⟨fun eK => ?_, fun eK1 => ⟨fun eK => ?_, fun eK2 => ⟨fun eK => ?_, fun eK3 => ?_⟩⟩⟩
    · -- PUSH
      refine ⟨⟨_, _, _, rfl, rfl, h3⟩, fun q5 g5 ⟨F5, hp5, hF5, hn5⟩ => ?_⟩
      obtain ⟨p', H', s', H5, row5, c5, e1, e2, hO, e3, hO5, ev5, hc5, hd5, hb5⟩ := hp5
      simp only [List.cons.injEq, and_true] at e1 e2 e3
      subst e1 e2 e3
      obtain ⟨e4, e5⟩ := h3.uniq hO
      have es : s' = a2 b := by cases s'; cases hh : a2 b; rw [hh] at e4 e5; simp only at e4 e5; rw [e4, e5]
      subst es
      have er : prow q5 13 = row5 := List.toArray_inj (Value.agg.inj ev5)
      rw [← er, ← hF5 trivial] at hc5
      have eF : aF b = pPc (a2 b) := by unfold aF; rw [if_pos eK]
      rw [← eF, ← g5.i 6 (by omega), ← g5.i 7 (by omega)] at hO5
      obtain ⟨r, hx, hrh, hrb, hrw, hT⟩ := mkRq (id := q5.i 8) (kind := aK b) (most := 0) (writer := 0) (seq := 0) (all := false) (u := nilV) (w := []) (cur := nz6) (R3 := Hl.none) hc5 rfl nz6_in (by rw [g5.i 8 (by omega), v8]; omega) iK i0 i0 (by omega) (nil_rows _) nil_toks
      have hp : Prs b r := ⟨by rw [hT.id, g5.i 8 (by omega), v8], hT.kind, by rw [hT.size, hrh], by rw [hT.cur, if_neg (by omega)]; rfl, by rw [hT.all, if_neg (by omega)], by rw [hT.most, if_neg (by omega)], by rw [hT.writer, if_neg (by omega)], by rw [hT.seq, if_neg (by omega)], by rw [hrw, if_neg (by omega)], by rw [hrb, if_pos eK, hb5], by rw [if_pos eK, hrh]; exact hd5⟩
      have he : ∀ q', Agree 145 q5 q' → qR1.map (CV.ev q') = rqRow (q5.i 8) (aK b) (prow q5 13) nz6 false nilV 0 0 0 := fun q' g => by
        rw [CV.agreeL g qR1 (by kernel_rfl), qR1_ev, g5.i 10 (by omega), wK]
      refine iOver hO5 fun q6 g6 hov => ⟨fun hv => ?_, fun hv => zPost hRd (no_one hx hp fun hh => hv (Eq.mpr hov hh.1))⟩
      rw [he q6 g6, g6.h 14 (by omega)]
      refine iFormQ hx fun q7 g7 hfm => ⟨fun hv2 => zPost hRd (no_one hx hp fun hh => hv2 (Eq.mpr hfm hh.2)), fun hv2 => ?_⟩
      have G7 : Agree 145 q5 q7 := g6.trans (g7.mono (by omega))
      refine yPost hRd (f := [4]) rfl (he q7 G7) (rq_norm (prow_norm hn5) trivial) (fun _ => ?_) (Eq.mp hfm hv2) (lawRA hby hp (Eq.mp hfm hv2) (Eq.mp hov hv).1 (Eq.mp hov hv).2)
      show IsRq (hls [q7.h 14]) (hls [q7.h 14]) (hls [q7.h 14]) _ r
      rw [hls_one, G7.h 14 (by omega)]
      exact hx.mono (Hl.le_refl _) (Hl.le_refl _) (fun _ _ h => nomatch h)
    · -- PULL
      refine ⟨⟨_, _, _, rfl, rfl, h3⟩, fun q5 g5 ⟨F5, hp5, hF5, hn5⟩ => ?_⟩
      obtain ⟨p', H', s', H5, e1, e2, hO, e3, hO5, ev5⟩ := hp5
      simp only [List.cons.injEq, and_true] at e1 e2 e3
      subst e1 e2 e3
      obtain ⟨e4, e5⟩ := h3.uniq hO
      have es : s' = a2 b := by cases s'; cases hh : a2 b; rw [hh] at e4 e5; simp only at e4 e5; rw [e4, e5]
      subst es
      have er : us [q5.i 13, q5.i 14, q5.i 15, q5.i 16, q5.i 17, q5.i 18] = us (pNums 1048576 6 (a2 b)).1 := List.toArray_inj (Value.agg.inj ev5)
      have er := us_inj er
      rw [← g5.i 6 (by omega), ← g5.i 7 (by omega)] at hO5
      refine ⟨⟨_, _, _, rfl, rfl, hO5⟩, fun q6 g6 ⟨F6, hp6, hF6, hn6⟩ => ?_⟩
      obtain ⟨p', H', s', H6, u6, e1, e2, hO, e3, hO6, ev6, hw6⟩ := hp6
      simp only [List.cons.injEq, and_true] at e1 e2 e3
      subst e1 e2 e3
      obtain ⟨e4, e5⟩ := hO5.uniq hO
      have es : s' = (pNums 1048576 6 (a2 b)).2 := by cases s'; cases hh : (pNums 1048576 6 (a2 b)).2; rw [hh] at e4 e5; simp only at e4 e5; rw [e4, e5]
      subst es
      have ev6 : [Value.bool (q6.b 19), .slice (slP (q6.i 20) (q6.i 21)) (q6.i 22).toNat (q6.i 23).toNat] = [Value.bool _, u6] := List.toArray_inj (Value.agg.inj ev6)
      simp only [List.cons.injEq, Value.bool.injEq, and_true] at ev6
      obtain ⟨ea, eu⟩ := ev6
      rw [← eu, ← hF6 trivial] at hw6
      rw [← g6.i 6 (by omega), ← g6.i 7 (by omega)] at hO6
      refine iNum hO6 fun q7 g7 h7 v24 => ?_
      have eF : aF b = pNum 8 (pWish (pNums 1048576 6 (a2 b)).2) := by unfold aF; rw [if_neg (by omega), if_pos eK]
      rw [← eF, ← g7.i 6 (by omega), ← g7.i 7 (by omega)] at h7
      have G67 : Agree 24 q6 q7 := g7
      have er : [q7.i 13, q7.i 14, q7.i 15, q7.i 16, q7.i 17, q7.i 18] = (pNums 1048576 6 (a2 b)).1 := by
        rw [g7.i 13 (by omega), g7.i 14 (by omega), g7.i 15 (by omega), g7.i 16 (by omega), g7.i 17 (by omega), g7.i 18 (by omega), g6.i 13 (by omega), g6.i 14 (by omega), g6.i 15 (by omega), g6.i 16 (by omega), g6.i 17 (by omega), g6.i 18 (by omega)]; exact er
      rw [← g7.b 19 (by omega)] at ea
      rw [← g7.i 20 (by omega), ← g7.i 21 (by omega), ← g7.i 22 (by omega), ← g7.i 23 (by omega), ← g7.h 20 (by omega)] at hw6
      have e8 : q7.i 8 = vNum 18446744073709551615 ⟨b, false⟩ := by rw [g7.i 8 (by omega), g6.i 8 (by omega), g5.i 8 (by omega), v8]
      have e10 : q7.i 10 = q4.i 10 := by rw [g7.i 10 (by omega), g6.i 10 (by omega), g5.i 10 (by omega)]
      have hin := nums_in (m := 1048576) (by omega) 6 (a2 b)
      have hm := vNum_in (s := pWish (pNums 1048576 6 (a2 b)).2) (m := 8) (by omega)
      have l1 : bytes256 (pNums 1048576 6 (a2 b)).2.l := nums256 6 _ b2
      have hws : toksIn (vWish (pNums 1048576 6 (a2 b)).2) := by
        have h8 := vNum_in (s := pFlag (pNums 1048576 6 (a2 b)).2) (m := 8) (by omega)
        refine ⟨?_, (toks256 _ _ (num256 (flag256 l1))).1⟩
        unfold vWish
        rw [toks_len]; unfold wN; omega
      obtain ⟨r, hx, hrh, hrb, hrw, hT⟩ := mkRq (id := q7.i 8) (kind := aK b) (most := vNum 8 (pWish (pNums 1048576 6 (a2 b)).2)) (writer := 0) (seq := 0) (all := q7.b 19) (cur := [q7.i 13, q7.i 14, q7.i 15, q7.i 16, q7.i 17, q7.i 18]) (zpc_is Hl.none Hl.none) rfl (by rw [er]; intro z hz; have := hin z hz; omega) (by rw [e8]; omega) iK (by unfold i64in; omega) i0 (by omega) hw6.rd hws
      have hp : Prs b r := ⟨by rw [hT.id, e8], hT.kind, by rw [hT.size, hrh], by rw [hT.cur, if_pos eK, er], by rw [hT.all, if_pos eK, ea], by rw [hT.most, if_pos eK], by rw [hT.writer, if_neg (by omega)], by rw [hT.seq, if_neg (by omega)], by rw [hrw, if_pos eK], by rw [hrb, if_neg (by omega)], by rw [if_neg (by omega), hrh]⟩
      have he : ∀ q', Agree 26 q7 q' → qR2.map (CV.ev q') = rqRow (q7.i 8) (aK b) zpc [q7.i 13, q7.i 14, q7.i 15, q7.i 16, q7.i 17, q7.i 18] (q7.b 19) (.slice (slP (q7.i 20) (q7.i 21)) (q7.i 22).toNat (q7.i 23).toNat) (vNum 8 (pWish (pNums 1048576 6 (a2 b)).2)) 0 0 := fun q' g => by
        rw [CV.agreeL g qR2 (by kernel_rfl), qR2_ev, e10, wK, v24, IntWalk.i64_in _ (by omega)]
      refine iOver h7 fun q8 g8 hov => ⟨fun hv => ?_, fun hv => zPost hRd (no_one hx hp fun hh => hv (Eq.mpr hov hh.1))⟩
      rw [he q8 g8, g8.h 20 (by omega)]
      refine iFormQ hx fun q9 g9 hfm => ⟨fun hv2 => zPost hRd (no_one hx hp fun hh => hv2 (Eq.mpr hfm hh.2)), fun hv2 => ?_⟩
      have G9 : Agree 26 q7 q9 := g8.trans (g9.mono (by omega))
      refine yPost hRd (f := [4]) rfl (he q9 G9) (rq_norm zpc_norm ?_) (fun _ => ?_) (Eq.mp hfm hv2) (lawRA hby hp (Eq.mp hfm hv2) (Eq.mp hov hv).1 (Eq.mp hov hv).2)
      · refine normV_bp ?_
        rw [g7.i 20 (by omega)]; exact hn6.1.2.1.1
      · show IsRq (hls [q9.h 20]) (hls [q9.h 20]) (hls [q9.h 20]) _ r
        rw [hls_one, G9.h 20 (by omega)]
        exact hx.mono (fun _ _ h => nomatch h) (fun _ _ h => nomatch h) (Hl.le_refl _)
    · -- FETCH
      refine iNum h3 fun q5 g5 h5 v13 => ?_
      rw [← g5.i 6 (by omega), ← g5.i 7 (by omega)] at h5
      refine iNum h5 fun q6 g6 h6 v15 => ?_
      have eF : aF b = pNum 1048576 (pNum 6 (a2 b)) := by unfold aF; rw [if_neg (by omega), if_neg (by omega), if_pos eK]
      rw [← eF, ← g6.i 6 (by omega), ← g6.i 7 (by omega)] at h6
      have e8 : q6.i 8 = vNum 18446744073709551615 ⟨b, false⟩ := by rw [g6.i 8 (by omega), g5.i 8 (by omega), v8]
      have e10 : q6.i 10 = q4.i 10 := by rw [g6.i 10 (by omega), g5.i 10 (by omega)]
      rw [← g6.i 13 (by omega)] at v13
      have h13 := vNum_in (s := a2 b) (m := 6) (by omega)
      have h15 := vNum_in (s := pNum 6 (a2 b)) (m := 1048576) (by omega)
      obtain ⟨r, hx, hrh, hrb, hrw, hT⟩ := mkRq (id := q6.i 8) (kind := aK b) (most := 0) (writer := vNum 6 (a2 b)) (seq := vNum 1048576 (pNum 6 (a2 b))) (all := false) (u := nilV) (w := []) (cur := nz6) (R3 := Hl.none) (zpc_is Hl.none Hl.none) rfl nz6_in (by rw [e8]; omega) iK i0 (by unfold i64in; omega) (by omega) (nil_rows _) nil_toks
      have hp : Prs b r := ⟨by rw [hT.id, e8], hT.kind, by rw [hT.size, hrh], by rw [hT.cur, if_neg (by omega)]; rfl, by rw [hT.all, if_neg (by omega)], by rw [hT.most, if_neg (by omega)], by rw [hT.writer, if_pos eK], by rw [hT.seq, if_pos eK], by rw [hrw, if_neg (by omega)], by rw [hrb, if_neg (by omega)], by rw [if_neg (by omega), hrh]⟩
      have he : ∀ q', Agree 17 q6 q' → qR3.map (CV.ev q') = rqRow (q6.i 8) (aK b) zpc nz6 false nilV 0 (vNum 6 (a2 b)) (vNum 1048576 (pNum 6 (a2 b))) := fun q' g => by
        rw [CV.agreeL g qR3 (by kernel_rfl), qR3_ev, e10, wK, v13, v15, IntWalk.i64_in _ (by omega)]
      refine iOver h6 fun q8 g8 hov => ⟨fun hv => ?_, fun hv => zPost hRd (no_one hx hp fun hh => hv (Eq.mpr hov hh.1))⟩
      rw [he q8 g8]
      refine iFormQ hx fun q9 g9 hfm => ⟨fun hv2 => zPost hRd (no_one hx hp fun hh => hv2 (Eq.mpr hfm hh.2)), fun hv2 => ?_⟩
      have G9 : Agree 17 q6 q9 := g8.trans (g9.mono (by omega))
      refine yPost hRd (f := []) rfl (he q9 G9) (rq_norm zpc_norm trivial) (fun _ => ?_) (Eq.mp hfm hv2) (lawRA hby hp (Eq.mp hfm hv2) (Eq.mp hov hv).1 (Eq.mp hov hv).2)
      exact hx.mono (fun _ _ h => nomatch h) (fun _ _ h => nomatch h) (fun _ _ h => nomatch h)
    · -- no kind
      have e8 : q4.i 8 = vNum 18446744073709551615 ⟨b, false⟩ := v8
      have eF : aF b = a2 b := by unfold aF; rw [if_neg (by omega), if_neg (by omega), if_neg (by omega)]
      rw [← eF] at h3
      obtain ⟨r, hx, hrh, hrb, hrw, hT⟩ := mkRq (id := q4.i 8) (kind := aK b) (most := 0) (writer := 0) (seq := 0) (all := false) (u := nilV) (w := []) (cur := nz6) (R3 := Hl.none) (zpc_is Hl.none Hl.none) rfl nz6_in (by rw [e8]; omega) iK i0 i0 (by omega) (nil_rows _) nil_toks
      have hp : Prs b r := ⟨by rw [hT.id, e8], hT.kind, by rw [hT.size, hrh], by rw [hT.cur, if_neg (by omega)]; rfl, by rw [hT.all, if_neg (by omega)], by rw [hT.most, if_neg (by omega)], by rw [hT.writer, if_neg (by omega)], by rw [hT.seq, if_neg (by omega)], by rw [hrw, if_neg (by omega)], by rw [hrb, if_neg (by omega)], by rw [if_neg (by omega), hrh]⟩
      have he : ∀ q', Agree 13 q4 q' → qR0.map (CV.ev q') = rqRow (q4.i 8) (aK b) zpc nz6 false nilV 0 0 0 := fun q' g => by
        rw [CV.agreeL g qR0 (by kernel_rfl), qR0_ev, wK]
      refine iOver h3 fun q8 g8 hov => ⟨fun hv => ?_, fun hv => zPost hRd (no_one hx hp fun hh => hv (Eq.mpr hov hh.1))⟩
      rw [he q8 g8]
      refine iFormQ hx fun q9 g9 hfm => ⟨fun hv2 => zPost hRd (no_one hx hp fun hh => hv2 (Eq.mpr hfm hh.2)), fun hv2 => ?_⟩
      have G9 : Agree 13 q4 q9 := g8.trans (g9.mono (by omega))
      refine yPost hRd (f := []) rfl (he q9 G9) (rq_norm zpc_norm trivial) (fun _ => ?_) (Eq.mp hfm hv2) (lawRA hby hp (Eq.mp hfm hv2) (Eq.mp hov hv).1 (Eq.mp hov hv).2)
      exact hx.mono (fun _ _ h => nomatch h) (fun _ _ h => nomatch h) (fun _ _ h => nomatch h)
end Go.Proofs.Ytkdllpialpfopaa
