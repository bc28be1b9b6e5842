/- Layer 9: records packed as texts: packed, as a contract. Condition: at most a million rows of a million bytes. -/
import Derived.Test.YtomdimlnggpgbaaDoorStC
set_option linter.unusedSimpArgs false
set_option linter.unusedVariables false
set_option linter.constructorNameAsVariable false
namespace Go.Proofs.YtomdimlnggpgbaaDoor
open Go Go.Sx Go.Pk

theorem sl_parts {u : Value} (h : ∃ a l c, u = .slice a l c) : Value.slice (slP (valP (some u) 0) (valP (some u) 1)) (valP (some u) 2).toNat (valP (some u) 3).toNat = u := by
  obtain ⟨a, n, c, rfl⟩ := h
  cases a with
  | none => simp [valP, slP]
  | some a =>
    obtain ⟨b, o, s⟩ := a
    cases s with
    | none => simp [valP, slP]
    | some s =>
      simp only [valP, Int.toNat_natCast]
      unfold slP
      rw [if_neg (by omega), if_neg (by omega), Int.toNat_natCast, unp_pair, show (-(-(b : Int) - 2) - 2).toNat = b by omega]
theorem RdW.parts {R : Hl} {u : Value} {r : List Int} (h : RdW R u r) : (∃ a l c, u = .slice a l c) ∧ valP (some u) 2 = r.length ∧
    (valP (some u) 0 = -1 ∨ valP (some u) 2 = 0 ∨ 0 ≤ valP (some u) 0 ∧ 0 ≤ valP (some u) 1 ∧ cellBytes R (valP (some u) 0).toNat (valP (some u) 1).toNat (valP (some u) 2).toNat = true) ∧
    (if valP (some u) 0 = -1 then ByteArray.empty else bytesOf (cellInts R (valP (some u) 0).toNat (valP (some u) 1).toNat (valP (some u) 2).toNat)) = bytesOf r := by
  obtain ⟨x, y, c, rfl, hy, h⟩ := h
  have h2 : valP (some (.slice (slP x y) r.length c)) 2 = r.length := by
    cases hs : slP x y with
    | none => rfl
    | some a => obtain ⟨b, o, s⟩ := a; cases s <;> rfl
  refine ⟨⟨_, _, _, rfl⟩, h2, ?_⟩
  rw [h2]
  rcases h with h | ⟨hx, hc⟩
  · subst h
    refine ⟨Or.inr (Or.inl rfl), ?_⟩
    show (if _ then ByteArray.empty else bytesOf (cellInts R _ _ 0)) = ByteArray.empty
    split <;> rfl
  · rw [sl0 (by omega), sl1 hx hy, Int.toNat_natCast]
    refine ⟨Or.inr (Or.inr ⟨hx, hy, cells_bytes hc (Nat.le_refl _)⟩), ?_⟩
    rw [if_neg (by omega), cells_ints hc]
/-- Rows of bytes that may be read: their slices' block in one piece, they in another. -/
def RowsB (R RA : Hl) (v : Value) (rows : List (List Int)) : Prop := ∃ (us : List Value) (x y : Int) (c : Nat), v = .slice (slP x y) us.length c ∧ 0 ≤ y ∧ us.length = rows.length ∧ (∀ (j : Nat) (u : Value), us[j]? = some u → 0 ≤ x ∧ R.cell x.toNat (y.toNat + j) = some u) ∧ (∀ (j : Nat) (u : Value) (r : List Int), us[j]? = some u → rows[j]? = some r → RdW RA u r)
theorem RowsB.uniq {R RA : Hl} {v : Value} {a b : List (List Int)} (h1 : RowsB R RA v a) (h2 : RowsB R RA v b) : a = b := by
  obtain ⟨us, x, y, c, hv, hy, hl, hc, hr⟩ := h1
  obtain ⟨us', x', y', c', hv', hy', hl', hc', hr'⟩ := h2
  rw [hv] at hv'
  simp only [Value.slice.injEq] at hv'
  obtain ⟨ep, el, _⟩ := hv'
  apply List.ext_getElem (by omega)
  intro j hj hj'
  have hu : us[j]? = some us[j] := List.getElem?_eq_getElem (by omega)
  have hu' : us'[j]? = some us'[j] := List.getElem?_eq_getElem (by omega)
  obtain ⟨hx, e1⟩ := hc j _ hu
  obtain ⟨hx', e2⟩ := hc' j _ hu'
  obtain ⟨exx, eyy⟩ := slP_inj (by omega) hy (by omega) hy' ep
  have eyy := eyy hx
  subst exx; subst eyy
  rw [e1] at e2
  have e2 : us[j] = us'[j] := by simpa using e2
  have h1 := hr j _ _ hu (List.getElem?_eq_getElem hj)
  have h2 := hr' j _ _ hu' (List.getElem?_eq_getElem hj')
  rw [e2] at h1
  exact h1.uniq h2
/-- A row's slice, as it is read. -/
theorem RowsB.at {R RA : Hl} {x y : Int} {l c : Nat} {rows : List (List Int)} (h : RowsB R RA (.slice (slP x y) l c) rows) (hy : 0 ≤ y) : l = rows.length ∧ ∀ (i : Nat) r, rows[i]? = some r → 0 ≤ x ∧ ∃ u, R.cell x.toNat (y.toNat + i) = some u ∧ RdW RA u r := by
  obtain ⟨us, x', y', c', hv, hy', hl, hc, hr⟩ := h
  simp only [Value.slice.injEq] at hv
  obtain ⟨ep, el, _⟩ := hv
  refine ⟨by omega, fun i r hi => ?_⟩
  have hi' := (List.getElem?_eq_some_iff.1 hi).1
  have hu : us[i]? = some us[i] := List.getElem?_eq_getElem (by omega)
  obtain ⟨hx, e⟩ := hc i _ hu
  obtain ⟨rfl, rfl⟩ := slP_eqS hx hy' hy ep
  exact ⟨hx, _, e, hr i _ r hu hi⟩
/-- What the number parts of a slice read as. -/
theorem RdW.slice {R : Hl} {u : Value} {r : List Int} (h : RdW R u r) : ∃ (x y : Int) (c : Nat), u = .slice (slP x y) r.length c ∧ 0 ≤ y := by
  obtain ⟨x, y, c, e, hy, _⟩ := h
  exact ⟨x, y, c, e, hy⟩
def packB (rows : List (List Int)) : List Int := (rows.map textBytes).flatten
def packOk (rows : List (List Int)) : Prop := ∀ r ∈ rows, r.length ≤ 4096
theorem packB_take {rows : List (List Int)} {k : Nat} {r : List Int} (h : rows[k]? = some r) : packB (rows.take (k + 1)) = packB (rows.take k) ++ textBytes r := by
  unfold packB
  rw [List.take_add_one, h, Option.toList_some, List.map_append, List.flatten_append]
  simp
def packedS : Sx.Spec where
  fn := 72
  own := []
  rd := [0, 3000000]
  res := [.one .sl, .one (.int .i64)]
  pre := fun xs Hs Rs => ∃ v R RA rows, xs = [v] ∧ Rs = [R, RA] ∧ RowsB R RA v rows ∧ rows.length ≤ 1000000 ∧ ∀ r ∈ rows, r.length ≤ 1000000
  post := fun xs Hs Rs w Hs' F => ∃ v R RA rows u e, xs = [v] ∧ Rs = [R, RA] ∧ RowsB R RA v rows ∧ w = .tuple #[u, .int .i64 e] ∧ (packOk rows → e = 0 ∧ OwB F 5 u (packB rows)) ∧ (¬ packOk rows → e = 3)
def pkΓ : List Sx.Spec := [oTextS, oEndS]
theorem pkΓ_ok : ∀ t ∈ pkΓ, t.OK Tryd.prog := fun t ht => by
  simp only [pkΓ, List.mem_cons, List.mem_nil_iff, or_false] at ht
  rcases ht with rfl | rfl
  · exact oTextS_ok
  · exact oEndS_ok
def packedNd : Nd := .and (.e (.le (.lit 0) (.var 2))) (.and (.inv 0 [⟨53, 0, .int .i64 (.lit (-1))⟩, ⟨54, 0, .int .i64 (.lit 0)⟩, ⟨55, 0, .int .i64 (.lit 0)⟩, ⟨50, 0, .int .i64 (.lit 0)⟩] [(56, none)]) (.havoc 0 0 6 (.and (.imp (.lt (.var 50) (.var 2)) (.and (.e (.le (.lit 0) (.var 0))) (.and (.e (.le (.lit 0) (.var 1))) (.and (.e (.le (.lit 0) (.var 50))) (.and (.e (.his 4 (.var 0) (.add (.var 1) (.var 50)) 0 .slice)) (.ext (.alloc 60) (.and (.pre (.call 0 61 [.sv (.one (.hptr (.var 60) (.lit 0))), .sv (.one (.sl (.hP 4 (.var 0) (.add (.var 1) (.var 50)) 0 0) (.hP 4 (.var 0) (.add (.var 1) (.var 50)) 0 1) (.hP 4 (.var 0) (.add (.var 1) (.var 50)) 0 2) (.hP 4 (.var 0) (.add (.var 1) (.var 50)) 0 3)))] [.blk 60 [.sl (.lit (-1)) (.lit 0) (.lit 0) (.lit 0), .bool .ff] 124] [.ro 5 [] true])) (.ext (.call 0 61 [.sv (.one (.hptr (.var 60) (.lit 0))), .sv (.one (.sl (.hP 4 (.var 0) (.add (.var 1) (.var 50)) 0 0) (.hP 4 (.var 0) (.add (.var 1) (.var 50)) 0 1) (.hP 4 (.var 0) (.add (.var 1) (.var 50)) 0 2) (.hP 4 (.var 0) (.add (.var 1) (.var 50)) 0 3)))] [.blk 60 [.sl (.lit (-1)) (.lit 0) (.lit 0) (.lit 0), .bool .ff] 124] [.ro 5 [] true]) (.and (.pre (.call 1 63 [.sv (.one (.hptr (.var 60) (.lit 0)))] [] [.hp 61 [] [.var 60] []])) (.ext (.call 1 63 [.sv (.one (.hptr (.var 60) (.lit 0)))] [] [.hp 61 [] [.var 60] []]) (.and (.imp (.not (.eq (.var 67) (.lit 0))) (.post [.ro 4 [.var 0] false, .ro 5 [] true, .hp 56 [] [.var 53] [], .hp 61 [] [.var 60] [], .hp 63 [] [.var 63] []] (.tup [.one (.sl (.lit (-1)) (.lit 0) (.lit 0) (.lit 0)), .one (.int .i64 (.var 67))]))) (.imp (.eq (.var 67) (.lit 0)) (.and (.pre (.app 68 5 1 1 (.sl (.var 53) (.lit 0) (.var 54) (.var 55)) (.var 54) (.hp 56 [] [.var 53] []) (.seg 63 (.var 63) (.var 64) (.var 65)))) (.ext (.app 68 5 1 1 (.sl (.var 53) (.lit 0) (.var 54) (.var 55)) (.var 54) (.hp 56 [] [.var 53] []) (.seg 63 (.var 63) (.var 64) (.var 65))) (.back 0 0 [⟨53, 0, .int .i64 (.var 68)⟩, ⟨54, 0, .int .i64 (.add (.var 54) (.var 65))⟩, ⟨55, 0, .int .i64 (.var 69)⟩, ⟨50, 0, .int .i64 (.wrap .i64 (.add (.var 50) (.lit 1)))⟩] [(56, some 68)]))))))))))))))) (.imp (.not (.lt (.var 50) (.var 2))) (.post [.ro 4 [.var 0] false, .ro 5 [] true, .hp 56 [] [.var 53] []] (.tup [.one (.sl (.var 53) (.lit 0) (.var 54) (.var 55)), .one (.int .i64 (.lit 0))]))))))
def packedW : Walk Tryd.prog pkΓ packedS.fn where
  Λ := fun p => if lp0 p then some ⟨0, [(4, .sv (.one (.sl (.var 53) (.lit 0) (.var 54) (.var 55)))), (12, TI .i64 (.var 50))], [(2, .hp 56 [] [.var 53] [])], 60⟩ else none
  args := [.sv (.one (.sl (.var 0) (.var 1) (.var 2) (.var 3)))]
  mem := [.ro 4 [.var 0] false, .ro 5 [] true]
  nv := 6
  nd := packedNd
  ok := by kernel_rfl
theorem pkg0 : pkΓ[0]? = some oTextS := rfl
theorem pkg1 : pkΓ[1]? = some oEndS := rfl
theorem pkr0 : oTextS.res = [] := rfl
theorem pkr1 : oEndS.res = [.one .sl, .one (.int .i64)] := rfl
theorem rsi (n : Nat) : (cpRoots n [Cp.one .sl, Cp.one (.int .i64)] ≠ []) = True := by simp [cpRoots, Cp.roots, Ck.root]
theorem packedS_ok : packedS.OK Tryd.prog := by
  refine Spec.of_fn (Γ := pkΓ) pkΓ_ok ?_
  rintro xs Hs Rs hl1 hl2 ⟨v, R, RA, rows, rfl, rfl, hB, hlen, hrow⟩
  have e0 : Hs = [] := List.length_eq_zero_iff.1 hl1
  subst e0
  obtain ⟨us, x, y, c, rfl, hy, hul, hcell, hrd⟩ := id hB
  refine ⟨packedW, envI [x, y, us.length, c] false [Hl.none, Hl.none, Hl.none, Hl.none, R, RA], fun _ q => ∃ k : Nat, q.i 50 = k ∧ k ≤ rows.length ∧ (∀ r ∈ rows.take k, r.length ≤ 4096) ∧ -1 ≤ q.i 53 ∧ q.i 54 = (packB (rows.take k)).length ∧ 0 ≤ q.i 55 ∧ OwB (q.h 56) 5 (.slice (slP (q.i 53) 0) (q.i 54).toNat (q.i 55).toNat) (packB (rows.take k)) ∧ (packB (rows.take k)).length ≤ 4106 * k, fun _ q => (rows.length - q.i 50).toNat, ?_, ⟨?_, ?_, ?_, ?_⟩, (fun _ h => nomatch h), ?_⟩
  · show [Value.slice (slP x y) ((us.length : Int)).toNat ((c : Int)).toNat] = _
    rw [Int.toNat_natCast, Int.toNat_natCast]
  · intro r hr ho; simp [packedW] at hr; rcases hr with rfl | rfl <;> cases ho
  · intro r hr ho; simp [packedW] at hr
    rcases hr with rfl | rfl
    · exact ⟨R, by simp, Hl.le_refl _⟩
    · exact ⟨RA, by simp, Hl.le_refl _⟩
  · simp [packedW, Res.own]
  · intro r hr; simp [packedW] at hr; rcases hr with rfl | rfl <;> trivial
  · show Nd.holds _ _ _ packedNd
    generalize hρ : envI [x, y, us.length, c] false [Hl.none, Hl.none, Hl.none, Hl.none, R, RA] = ρ
    have v0 : ρ.i 0 = x := by rw [← hρ]; rfl
    have v1 : ρ.i 1 = y := by rw [← hρ]; rfl
    have v2 : ρ.i 2 = us.length := by rw [← hρ]; rfl
    have v3 : ρ.i 3 = c := by rw [← hρ]; rfl
    have w4 : ρ.h 4 = R := by rw [← hρ]; rfl
    have w5 : ρ.h 5 = RA := by rw [← hρ]; rfl
    clear hρ
    unfold packedNd
    simp only [Nd.holds, X.pre, X.rel, X.n, Src.ok, Src.len, Src.vals, true_and, and_true, if_true, Nat.mul_one, Nat.add_zero, Nat.reduceAdd, List.length_cons, List.length_nil, bT_tt, bT_ff, bT_bvar, bT_not, bT_and, bT_or, bT_ite, bT_lt, bT_le, bT_eq, bT_beq, bT_seq, bT_hB, bT_his, bT_hby, bT_hism, bT_hks, iev_lit, iev_var, iev_add, iev_sub, iev_mul, iev_wrap, iev_ite, iev_hI, iev_hP, iev_hmlen, sev_ite, sev_slit, sev_sof, sev_svar, TV.ev, SV.ev, CV.ev, List.map_cons, List.map_nil, Res.hl, cpTV, Cp.sv, Ck.cv, cpSVs, Cp.len, Ck.len, newHs_zero, newHs_one, roots_ne, pkg0, pkg1, pkr0, pkr1, rsi]
    rw [v2]
    refine ⟨by omega, ⟨0, rfl, Nat.zero_le _, (by simp), Int.le_refl _, rfl, Int.le_refl _, ⟨rfl, Or.inl ⟨rfl, rfl⟩⟩, by simp [packB]⟩, fun q g ⟨k, ek, hk, h4k, x53, y54, x55, hO, hle⟩ => ?_⟩
    rw [g.i 0 (by omega), g.i 1 (by omega), g.i 2 (by omega), g.h 4 (by omega), v0, v1, v2, w4, ek]
    refine ⟨fun hlt => ?_, fun hge => ?_⟩
    · have hkr : k < rows.length := by omega
      have hr : rows[k]? = some rows[k] := List.getElem?_eq_getElem hkr
      have hu : us[k]? = some us[k] := List.getElem?_eq_getElem (by omega)
      obtain ⟨hx0, hc⟩ := hcell k _ hu
      have hRr := hrd k _ _ hu hr
      have hsl : ∃ a l c, us[k] = Value.slice a l c := (RdW.parts hRr).1
      have hck : R.cell x.toNat (y + (k : Int)).toNat = some us[k] := by rw [show (y + (k : Int)).toNat = y.toNat + k by omega]; exact hc
      refine ⟨hx0, hy, by omega, by rw [hck]; obtain ⟨_, _, _, e⟩ := hsl; rw [e]; rfl, fun q1 g1 p60 => ?_⟩
      have G1 : Agree 6 ρ q1 := g.trans (g1.mono (by omega))
      rw [G1.h 4 (by omega), G1.h 5 (by omega), G1.i 0 (by omega), G1.i 1 (by omega), g1.i 50 (by omega), v0, v1, w4, w5, ek, hck, sl_parts hsl, slP_pos p60]
      refine ⟨⟨_, _, _, RA, [], false, rows[k], rfl, rfl, rfl, OutAt.new _, hRr, by simp, hrow _ (List.getElem_mem _)⟩, fun q2 g2 ⟨F2, ⟨p2, u2, H2, R2, bs2, lg2, b2, H2', e1, e2, e3, hO2, hR2, e4, hO2'⟩, _⟩ => ?_⟩
      simp only [List.cons.injEq, and_true] at e1 e2 e3 e4
      obtain ⟨e1, e1'⟩ := e1
      subst e1 e1' e2 e3
      obtain ⟨eb, el⟩ := (OutAt.new _).uniq hO2
      subst eb el
      obtain rfl := hRr.uniq hR2
      rw [← e4] at hO2'
      have hOT : outText [] false rows[k] = if 4096 < rows[k].length then ([], true) else (textBytes rows[k], false) := rfl
      rw [hOT] at hO2'
      have htl : rows[k].length ≤ 4096 → (textBytes rows[k]).length ≤ 4106 := fun h => by
        unfold textBytes
        have := num_bound (z := rows[k].length) (by omega)
        rw [List.length_append]; omega
      have hbnd : (if 4096 < rows[k].length then (([] : List Int), true) else (textBytes rows[k], false)).1.length ≤ 1000000 := by
        split
        · simp
        · have := htl (by omega); show (textBytes rows[k]).length ≤ _; omega
      rw [g2.i 60 (by omega), slP_pos p60]
      refine ⟨⟨_, _, _, _, rfl, rfl, hO2', hbnd⟩, fun q3 g3 ⟨F3, ⟨p3, R3, bs3, lg3, u3, e1, e2, hO3, hv3, hw3⟩, hF3, hn3⟩ => ?_⟩
      simp only [List.cons.injEq, and_true] at e1 e2
      subst e1 e2
      obtain ⟨eb, el⟩ := hO2'.uniq hO3
      subst eb el
      simp only [Value.tuple.injEq, Array.mk.injEq, List.cons.injEq, Value.int.injEq, true_and, and_true] at hv3
      obtain ⟨eu, e67⟩ := hv3
      rw [← eu, ← hF3 trivial] at hw3
      have G3 : Agree 60 q q3 := g1.trans ((g2.trans (g3.mono (by omega))).mono (by omega))
      have hn3 : -1 ≤ q3.i 63 ∧ 0 ≤ q3.i 64 ∧ 0 ≤ q3.i 65 ∧ 0 ≤ q3.i 66 := hn3.1
      by_cases hbig : 4096 < rows[k].length
      · rw [if_pos hbig] at e67
        have e67 : q3.i 67 = 3 := e67
        refine ⟨fun _ _ => ?_, fun h0 => (by omega)⟩
        refine ⟨[], [], rfl, rfl, ⟨⟨fun j => [-1, 0, 0, 0, 3].getD j 0, fun _ => false, fun _ => .empty, fun _ => .tuple #[], fun _ => Hl.none⟩, ?_, ⟨Int.le_refl _, Int.le_refl _, Int.le_refl _, Int.le_refl _⟩, trivial, trivial⟩, _, R, RA, rows, .slice none 0 0, 3, rfl, rfl, hB, ?_, fun hok => ?_, fun _ => rfl⟩
        · show Value.tuple #[.slice (slP (-1) 0) 0 0, .int .i64 (q3.i 67)] = _
          rw [e67]; rfl
        · show Value.tuple #[.slice (slP (-1) 0) 0 0, .int .i64 (q3.i 67)] = _
          rw [e67]; rfl
        · have := hok _ (List.getElem_mem hkr); omega
      · rw [if_neg hbig] at e67 hw3
        have hl4 := htl (by omega)
        have hE : endR (textBytes rows[k]) false = (textBytes rows[k], 0) := by unfold endR; rw [if_neg (by simp; omega)]
        have e67 : q3.i 67 = (endR (textBytes rows[k]) false).2 := e67
        have hw3 : OwB (q3.h 63) 5 (.slice (slP (q3.i 63) (q3.i 64)) (q3.i 65).toNat (q3.i 66).toNat) (endR (textBytes rows[k]) false).1 := hw3
        rw [hE] at e67 hw3
        refine ⟨fun h => absurd e67 h, fun _ => ?_⟩
        have hat := hw3.rd.at hn3.1 hn3.2.1 hn3.2.2.1
        have h65 : q3.i 65 = (textBytes rows[k]).length := hat.1
        obtain ⟨hok, hseg⟩ := seg_of (R := q3.h 63) (x := q3.i 63) (y := q3.i 64) (l := q3.i 65) (bs := textBytes rows[k]) h65 hn3.2.1 (hat.2.imp (·.2) id)
        rw [G3.i 53 (by omega), G3.i 54 (by omega), G3.i 55 (by omega), G3.h 56 (by omega)]
        have hOw : OwnsH (q.h 56) 5 1 (.slice (slP (q.i 53) 0) (q.i 54).toNat (q.i 55).toNat) (q.i 54).toNat (bys (packB (rows.take k))) := by
          have := hO
          unfold OwB at this
          rw [show (q.i 54).toNat = (packB (rows.take k)).length by omega] at this ⊢
          exact this
        refine ⟨⟨⟨_, hOw⟩, by omega, hok, by unfold maxLen; omega, by omega⟩, fun q4 g4 ⟨a1, a2, happ, _⟩ => ?_⟩
        have h2 := happ _ hOw
        rw [hseg] at h2
        have e65 : q4.i 65 = q3.i 65 := g4.i 65 (by omega)
        have e54 : q4.i 54 = q.i 54 := by rw [g4.i 54 (by omega), G3.i 54 (by omega)]
        have e50 : q4.i 50 = k := by rw [g4.i 50 (by omega), G3.i 50 (by omega), ek]
        have hpk := packB_take hr
        have hpl : (packB (rows.take (k + 1))).length = (packB (rows.take k)).length + (textBytes rows[k]).length := by rw [hpk, List.length_append]
        refine ⟨⟨k + 1, ?_, by omega, fun r hrm => ?_, a1, ?_, a2, ?_, by omega⟩, ?_⟩
        · show IntKind.i64.wrap (q4.i 50 + 1) = _
          rw [e50, IntWalk.i64_in _ (by omega)]; omega
        · rw [List.take_add_one, hr, Option.toList_some] at hrm
          rcases List.mem_append.1 hrm with h | h
          · exact h4k r h
          · rw [List.mem_singleton] at h; subst h; omega
        · show q4.i 54 + q4.i 65 = _
          rw [e54, e65]; omega
        · show OwB (q4.h 68) _ (.slice (slP (q4.i 68) 0) (q4.i 54 + q4.i 65).toNat (q4.i 69).toNat) _
          unfold OwB
          rw [e54, e65, hpk, bys_append, List.length_append]
          have ea : (q.i 54).toNat + (q3.i 65).toNat = (packB (rows.take k)).length + (textBytes rows[k]).length := by omega
          have eb : (q.i 54 + q3.i 65).toNat = (packB (rows.take k)).length + (textBytes rows[k]).length := by omega
          rw [ea] at h2
          rw [eb]
          exact h2
        · show ((rows.length : Int) - IntKind.i64.wrap (q4.i 50 + 1)).toNat < _
          rw [e50, IntWalk.i64_in _ (by omega)]; omega
    · have hke : k = rows.length := by omega
      subst hke
      rw [List.take_length] at h4k y54 hO
      intro _
      refine ⟨[], [2], rfl, rfl, ⟨⟨fun j => [q.i 53, 0, q.i 54, q.i 55, 0].getD j 0, fun _ => false, fun _ => .empty, fun _ => .tuple #[], fun _ => Hl.none⟩, rfl, ⟨x53, Int.le_refl _, by show 0 ≤ q.i 54; omega, x55⟩, trivial, trivial⟩, _, R, RA, rows, .slice (slP (q.i 53) 0) (q.i 54).toNat (q.i 55).toNat, 0, rfl, rfl, hB, rfl, fun _ => ⟨rfl, ?_⟩, fun hno => absurd h4k hno⟩
      show OwB (hls [q.h 56]) _ _ _
      rw [hls_one]; exact hO
end Go.Proofs.YtomdimlnggpgbaaDoor
