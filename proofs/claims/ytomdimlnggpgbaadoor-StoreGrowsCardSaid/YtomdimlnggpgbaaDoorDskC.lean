/- Layer 7: Sectors, Loose, Read, as contracts. No condition. -/
import Derived.Test.YtomdimlnggpgbaaDoorDskB
set_option linter.unusedSimpArgs false
set_option linter.unusedVariables false
set_option linter.constructorNameAsVariable false
namespace Go.Proofs.YtomdimlnggpgbaaDoor.D
open Go Go.Sx

theorem lv_inj {a b : List (Int × List Int)} (h : lv a = lv b) : a = b := by
  apply List.ext_getElem?
  intro j
  have := congrArg (fun l => l[j]?) h
  simp only [lv, List.getElem?_map] at this
  cases ha : a[j]? with
  | none =>
    cases hb : b[j]? with
    | none => rfl
    | some q => simp [ha, hb] at this
  | some p =>
    cases hb : b[j]? with
    | none => simp [ha, hb] at this
    | some q =>
      simp only [ha, hb, Option.map_some, Option.some.injEq, Prod.mk.injEq, Value.agg.injEq] at this
      obtain ⟨h1, h2⟩ := this
      have h3 := congrArg Array.toList h2
      have h4 := bys_inj h3
      obtain ⟨p1, p2⟩ := p
      obtain ⟨q1, q2⟩ := q
      simp only at h1 h4
      rw [h1, h4]
theorem lv_length (l : List (Int × List Int)) : (lv l).length = l.length := List.length_map _
theorem MapIs.inj {k : IntKind} {es : Array MapEntry} {a b : List (Int × Value)} (h1 : MapIs k es a) (h2 : MapIs k es b) : a = b := by
  unfold MapIs at h1 h2
  rw [h1] at h2
  apply List.ext_getElem?
  intro j
  have := congrArg (fun l => l[j]?) h2
  simp only [List.getElem?_map] at this
  cases ha : a[j]? <;> cases hb : b[j]? <;> simp [ha, hb] at this ⊢
  exact Prod.ext this.1 this.2
theorem DiskIn.at {H : Hl} {a s m : Nat} {es : Array MapEntry} {clock : Nat} {D : DM} (h : DiskIn H a s m es clock D) :
    H a = some (.cells #[.slice (some ⟨s, 0, none⟩) D.n D.n, .map (some m), .int .i64 D.fuse, .bool D.gone] 66 (0, 0)) ∧ H s = some (.cells (bys D.now).toArray 92 (0, 0)) ∧ H m = some (.map es clock) := by
  obtain ⟨l1, l2, l3⟩ := hls3_le (A := dStruct a s m D.n D.fuse D.gone) (B := dNow s D.now) (C := Hl.one m (.map es clock)) (Hl.one_dis_one h.nas) (Hl.one_dis_one h.nam) (Hl.one_dis_one h.nsm)
  rw [h.hl]
  exact ⟨l1 _ _ (Hl.one_self _ _), l2 _ _ (Hl.one_self _ _), l3 _ _ (Hl.one_self _ _)⟩
theorem DiskAt.uniq {H : Hl} {v : Value} {D D' : DM} (h : DiskAt H v D) (h' : DiskAt H v D') : D = D' := by
  obtain ⟨a, s, m, es, clock, rfl, h⟩ := h
  obtain ⟨a', s', m', es', clock', he, h'⟩ := h'
  simp only [Value.pointer.injEq, Option.some.injEq, Addr.mk.injEq, and_true] at he
  subst he
  obtain ⟨x1, x2, x3⟩ := h.at
  obtain ⟨y1, y2, y3⟩ := h'.at
  rw [x1] at y1
  simp only [Option.some.injEq, Obj.cells.injEq, Array.mk.injEq, List.cons.injEq, Value.slice.injEq, Addr.mk.injEq, Value.map.injEq, Value.int.injEq, Value.bool.injEq, and_true, true_and] at y1
  obtain ⟨⟨rfl, hn, _⟩, rfl, hf, hg⟩ := y1
  rw [x2] at y2
  rw [x3] at y3
  simp only [Option.some.injEq, Obj.cells.injEq, List.toArray_inj, and_true] at y2
  simp only [Option.some.injEq, Obj.map.injEq] at y3
  obtain ⟨rfl, rfl⟩ := y3
  have e1 := bys_inj (congrArg Array.toList y2)
  have e2 := lv_inj (MapIs.inj h.map h'.map)
  obtain ⟨n, now, loose, fuse, gone⟩ := D
  obtain ⟨n', now', loose', fuse', gone'⟩ := D'
  simp only at hn hf hg e1 e2
  subst hn hf hg e1 e2
  rfl
theorem dExit {q : Env} {mem : Mem} {a s m : Nat} {es : Array MapEntry} {clock : Nat} {D : DM} (hok : D.ok) (hm : MapIs .i64 es (lv D.loose)) (hst : MapKept.Stamped es clock) (h1 : a ≠ s) (h2 : a ≠ m) (h3 : s ≠ m)
    (e1 : resAt q mem 0 = dStruct a s m D.n D.fuse D.gone) (e2 : resAt q mem 1 = dNow s D.now) (e3 : resAt q mem 2 = Hl.one m (.map es clock)) : DiskIn (uni q mem [0, 1, 2]) a s m es clock D :=
  ⟨hok, hm, hst, h1, h2, h3, by show hls [resAt q mem 0, resAt q mem 1, resAt q mem 2] = _; rw [e1, e2, e3]⟩
theorem dArg (a : Nat) : Value.pointer (slP (a : Int) 0) = .pointer (some ⟨a, 0, none⟩) := by rw [slP_pos (by omega)]; rfl

/-! ### Sectors, Loose -/
def numS (f : FuncId) (num : DM → Int) : Sx.Spec where
  fn := f
  own := [.arg 0]
  rd := []
  res := [.one (.int .i64)]
  pre := fun xs Hs Rs => ∃ p H D, xs = [p] ∧ Hs = [H] ∧ DiskAt H p D
  post := fun xs Hs Rs v Hs' F => ∃ p H D H', xs = [p] ∧ Hs = [H] ∧ DiskAt H p D ∧ Hs' = [H'] ∧ DiskAt H' p D ∧ v = .int .i64 (num D)
def sectorsS := numS 29 fun D => D.n
def sectorsNd : Nd := .and (.e (.le (.lit 0) (.var 8))) (.post [.blk 0 [.sl (.var 6) (.var 7) (.var 8) (.var 9), .map (.var 10), .int .i64 (.var 11), .bool (.bvar 12)] 66, .hp 13 [] [.var 6] [], .hp 14 [] [.var 10] []] (.sv (.one (.int .i64 (.var 8)))))
def sectorsW : Walk Tryd.prog [] sectorsS.fn where
  Λ := noLoops
  args := [TP (.var 0) (.lit 0)]
  mem := dMem
  nv := 15
  nd := sectorsNd
  ok := by kernel_rfl
theorem sectorsS_ok : sectorsS.OK Tryd.prog := by
  refine Spec.of_fn (Γ := []) (fun _ h => by cases h) ?_
  rintro xs Hs Rs hl1 hl2 ⟨p, H, D, rfl, rfl, a, s, m, es, clock, rfl, h⟩
  have e1 : Rs = [] := List.length_eq_zero_iff.1 hl2
  subst e1
  refine ⟨sectorsW, dEnv a s m D [0, 0, 0, 0, 0] es clock Hl.none, fun _ _ => True, fun _ _ => 0, ?_, dEntry h _ rfl _, (fun _ h => nomatch h), ?_⟩
  · show [Value.pointer (slP (a : Int) 0)] = _; rw [dArg]
  · show Nd.holds _ _ _ sectorsNd
    unfold sectorsNd
    simp only [Nd.holds, X.pre, X.rel, X.n, Src.ok, Src.len, Src.vals, true_and, and_true, if_true, Nat.mul_one, Nat.add_zero, Nat.reduceAdd, List.length_cons, List.length_nil, bT_tt, bT_ff, bT_bvar, bT_not, bT_and, bT_or, bT_ite, bT_lt, bT_le, bT_eq, bT_beq, bT_seq, bT_hB, bT_his, bT_hby, bT_hism, bT_hks, iev_lit, iev_var, iev_add, iev_sub, iev_mul, iev_wrap, iev_ite, iev_hI, iev_hP, iev_hmlen, sev_ite, sev_slit, sev_sof, sev_svar, TV.ev, SV.ev, CV.ev, List.map_cons, List.map_nil, Res.hl]
    refine ⟨by show (0 : Int) ≤ (D.n : Int); omega, fun _ => ⟨[[0, 1, 2]], [], rfl, rfl, ⟨⟨fun _ => D.n, fun _ => false, fun _ => .empty, fun _ => .tuple #[], fun _ => Hl.none⟩, rfl, trivial, trivial⟩, _, H, D, _, rfl, rfl, ⟨a, s, m, es, clock, rfl, h⟩, rfl, ⟨a, s, m, es, clock, rfl, ?_⟩, rfl⟩⟩
    exact dExit h.ok h.map h.st h.nas h.nam h.nsm (dBlk rfl rfl rfl rfl rfl rfl rfl rfl) rfl rfl
/-! ### Read -/
def DM.has (D : DM) (i : Int) : Bool := decide (0 ≤ i ∧ i < D.n)
def DM.sector (D : DM) (i : Int) : List Int := (D.now.drop (64 * i.toNat)).take 64
def readR (D : DM) (i : Int) : List Int × Int := if D.has i = false then ([], 1) else if D.gone then ([], 5) else (D.sector i, 0)
theorem sector_length {D : DM} (h : D.ok) {i : Int} (hi : D.has i = true) : (D.sector i).length = 64 := by
  unfold DM.has at hi
  simp only [decide_eq_true_eq] at hi
  unfold DM.sector
  rw [List.length_take, List.length_drop, h.now]
  omega
theorem sector_get {D : DM} (h : D.ok) {i : Int} (hi : D.has i = true) {j : Nat} (hj : j < 64) : (D.sector i)[j]? = D.now[64 * i.toNat + j]? := by
  unfold DM.sector
  rw [List.getElem?_take_of_lt hj, List.getElem?_drop]
theorem now_cell {D : DM} (s y : Nat) : (dNow s D.now).cell s y = (D.now[y]?).map (Value.int .u8) := by
  unfold dNow
  rw [Hl.one_cell, List.getElem?_toArray, bys_get]
def readS : Sx.Spec where
  fn := 75
  own := [.arg 0]
  rd := []
  res := [.one .sl, .one (.int .i64)]
  pre := fun xs Hs Rs => ∃ p i H D, xs = [p, .int .i64 i] ∧ Hs = [H] ∧ DiskAt H p D
  post := fun xs Hs Rs v Hs' F => ∃ p i H D H' u, xs = [p, .int .i64 i] ∧ Hs = [H] ∧ DiskAt H p D ∧ Hs' = [H'] ∧ DiskAt H' p D ∧ v = .tuple #[u, .int .i64 (readR D i).2] ∧ OwB F 5 u (readR D i).1
def readNd : Nd := .and (.imp (.le (.lit 0) (.var 1)) (.and (.e (.le (.lit 0) (.var 8))) (.and (.imp (.not (.lt (.var 1) (.var 8))) (.post [.blk 0 [.sl (.var 6) (.var 7) (.var 8) (.var 9), .map (.var 10), .int .i64 (.var 11), .bool (.bvar 12)] 66, .hp 13 [] [.var 6] [], .hp 14 [] [.var 10] []] (.tup [.one (.sl (.lit (-1)) (.lit 0) (.lit 0) (.lit 0)), .one (.int .i64 (.lit 1))]))) (.imp (.lt (.var 1) (.var 8)) (.and (.imp (.bvar 12) (.post [.blk 0 [.sl (.var 6) (.var 7) (.var 8) (.var 9), .map (.var 10), .int .i64 (.var 11), .bool (.bvar 12)] 66, .hp 13 [] [.var 6] [], .hp 14 [] [.var 10] []] (.tup [.one (.sl (.lit (-1)) (.lit 0) (.lit 0) (.lit 0)), .one (.int .i64 (.lit 5))]))) (.imp (.not (.bvar 12)) (.and (.e (.le (.lit 0) (.var 6))) (.and (.e (.le (.lit 0) (.var 7))) (.ext (.alloc 15) (.and (.pre (.app 16 5 1 1 (.sl (.var 15) (.lit 0) (.lit 0) (.lit 0)) (.lit 0) (.blk 15 [] 5) (.seg 13 (.var 6) (.add (.var 7) (.mul (.var 1) (.lit 64))) (.lit 64)))) (.ext (.app 16 5 1 1 (.sl (.var 15) (.lit 0) (.lit 0) (.lit 0)) (.lit 0) (.blk 15 [] 5) (.seg 13 (.var 6) (.add (.var 7) (.mul (.var 1) (.lit 64))) (.lit 64))) (.post [.blk 0 [.sl (.var 6) (.var 7) (.var 8) (.var 9), .map (.var 10), .int .i64 (.var 11), .bool (.bvar 12)] 66, .hp 13 [] [.var 6] [], .hp 14 [] [.var 10] [], .hp 16 [] [.var 16, .var 15] []] (.tup [.one (.sl (.var 16) (.lit 0) (.lit 64) (.var 17)), .one (.int .i64 (.lit 0))]))))))))))))) (.imp (.not (.le (.lit 0) (.var 1))) (.post [.blk 0 [.sl (.var 6) (.var 7) (.var 8) (.var 9), .map (.var 10), .int .i64 (.var 11), .bool (.bvar 12)] 66, .hp 13 [] [.var 6] [], .hp 14 [] [.var 10] []] (.tup [.one (.sl (.lit (-1)) (.lit 0) (.lit 0) (.lit 0)), .one (.int .i64 (.lit 1))])))
def readW : Walk Tryd.prog [] readS.fn where
  Λ := noLoops
  args := [TP (.var 0) (.lit 0), TI .i64 (.var 1)]
  mem := dMem
  nv := 15
  nd := readNd
  ok := by kernel_rfl
theorem readS_ok : readS.OK Tryd.prog := by
  refine Spec.of_fn (Γ := []) (fun _ h => by cases h) ?_
  rintro xs Hs Rs hl1 hl2 ⟨p, i, H, D, rfl, rfl, a, s, m, es, clock, rfl, h⟩
  have e1 : Rs = [] := List.length_eq_zero_iff.1 hl2
  subst e1
  refine ⟨readW, dEnv a s m D [i, 0, 0, 0, 0] es clock Hl.none, fun _ _ => True, fun _ _ => 0, ?_, dEntry h _ rfl _, (fun _ h => nomatch h), ?_⟩
  · show [Value.pointer (slP (a : Int) 0), Value.int .i64 i] = _; rw [dArg]
  · show Nd.holds _ _ _ readNd
    unfold readNd
    simp only [Nd.holds, X.pre, X.rel, X.n, Src.ok, Src.len, Src.vals, true_and, and_true, if_true, Nat.mul_one, Nat.add_zero, Nat.reduceAdd, List.length_cons, List.length_nil, bT_tt, bT_ff, bT_bvar, bT_not, bT_and, bT_or, bT_ite, bT_lt, bT_le, bT_eq, bT_beq, bT_seq, bT_hB, bT_his, bT_hby, bT_hism, bT_hks, iev_lit, iev_var, iev_add, iev_sub, iev_mul, iev_wrap, iev_ite, iev_hI, iev_hP, iev_hmlen, sev_ite, sev_slit, sev_sof, sev_svar, TV.ev, SV.ev, CV.ev, List.map_cons, List.map_nil, Res.hl]
    have v1 : (dEnv a s m D [i, 0, 0, 0, 0] es clock Hl.none).i 1 = i := rfl
    have v6 : (dEnv a s m D [i, 0, 0, 0, 0] es clock Hl.none).i 6 = s := rfl
    have v7 : (dEnv a s m D [i, 0, 0, 0, 0] es clock Hl.none).i 7 = 0 := rfl
    have v8 : (dEnv a s m D [i, 0, 0, 0, 0] es clock Hl.none).i 8 = D.n := rfl
    have vb : (dEnv a s m D [i, 0, 0, 0, 0] es clock Hl.none).b 12 = D.gone := rfl
    rw [v1, v6, v7, v8, vb]
    have keep : ∀ (q : Env) (t : Mem), Agree 15 (dEnv a s m D [i, 0, 0, 0, 0] es clock Hl.none) q → DiskAt (uni q (dMem ++ t) [0, 1, 2]) (.pointer (some ⟨a, 0, none⟩)) D := fun q t g =>
      ⟨a, s, m, es, clock, rfl, dExit h.ok h.map h.st h.nas h.nam h.nsm (dBlk (f := .var 11) (g := .bvar 12) (g.i 0 (by omega)) (g.i 6 (by omega)) (g.i 7 (by omega)) (g.i 8 (by omega)) (g.i 9 (by omega)) (g.i 10 (by omega)) (g.i 11 (by omega)) (g.b 12 (by omega))) (g.h 13 (by omega)) (g.h 14 (by omega))⟩
    have bad : ∀ e : Int, readR D i = ([], e) → postOf readS [.pointer (some ⟨a, 0, none⟩), .int .i64 i] [H] [] (dEnv a s m D [i, 0, 0, 0, 0] es clock Hl.none) dMem (.tup [.one (.sl (.lit (-1)) (.lit 0) (.lit 0) (.lit 0)), .one (.int .i64 (.lit e))]) := fun e he _ =>
      ⟨[[0, 1, 2]], [], rfl, rfl, ⟨⟨fun k => [-1, 0, 0, 0, e].getD k 0, fun _ => false, fun _ => .empty, fun _ => .tuple #[], fun _ => Hl.none⟩, rfl, ⟨by show (-1 : Int) ≤ -1; omega, Int.le_refl _, Int.le_refl _, Int.le_refl _⟩, trivial, trivial⟩, _, i, H, D, _, _, rfl, rfl, ⟨a, s, m, es, clock, rfl, h⟩, rfl, keep _ [] (Agree.refl _ _), by rw [he]; rfl, by rw [he]; exact ⟨rfl, Or.inl ⟨rfl, rfl⟩⟩⟩
    refine ⟨fun h0 => ⟨by omega, fun hn => bad 1 ?_, fun hn => ⟨fun hg => bad 5 ?_, fun hg => ⟨by omega, by omega, fun q1 g1 p1 => ⟨⟨⟨[], ?_⟩, by omega, Or.inl ⟨?_, ?_, by omega, ?_⟩, by decide, by decide⟩, fun q2 g2 ⟨a1, a2, a3, _⟩ _ => ?_⟩⟩⟩⟩, fun h0 => bad 1 ?_⟩
    · unfold readR DM.has; rw [if_pos (by simp only [decide_eq_false_iff_not]; omega)]
    · have hh : D.has i = true := by unfold DM.has; simpa using ⟨h0, hn⟩
      unfold readR; rw [hh, hg]; rfl
    · refine ⟨rfl, Or.inr ⟨(q1.i 15).toNat, 0, #[], by rw [slP_pos p1]; rfl, Hl.one_self _ _, by omega, by decide, rfl, rfl⟩⟩
    · rw [g1.i 6 (by omega), v6]; omega
    · rw [g1.i 7 (by omega), g1.i 1 (by omega), v7, v1]; omega
    · intro j hj
      have hj : j < 64 := hj
      rw [g1.h 13 (by omega), g1.i 6 (by omega), g1.i 7 (by omega), g1.i 1 (by omega), v6, v7, v1]
      show ∃ v, (dNow s D.now).cell s _ = some v ∧ _
      rw [now_cell, List.getElem?_eq_getElem (by rw [h.ok.now]; omega)]
      exact ⟨_, rfl, rfl⟩
    · have hh : D.has i = true := by unfold DM.has; simpa using ⟨h0, hn⟩
      have hr : readR D i = (D.sector i, 0) := by
        unfold readR; rw [hh]; simp only [Bool.true_eq_false, if_false]; rw [if_neg hg]
      have hsl := sector_length h.ok hh
      have hseg : segVals (q1.h 13) (q1.i 6).toNat (q1.i 7 + q1.i 1 * 64).toNat (Int.toNat 64) = bys (D.sector i) := by
        rw [g1.h 13 (by omega), g1.i 6 (by omega), g1.i 7 (by omega), g1.i 1 (by omega), v6, v7, v1]
        show segVals (dNow s D.now) s _ 64 = _
        unfold segVals
        apply List.ext_getElem?
        intro j
        rw [List.getElem?_map, bys_get]
        rcases Nat.lt_or_ge j 64 with hj | hj
        · rw [List.getElem?_range hj, Option.map_some, now_cell, sector_get h.ok hh hj, show (0 + i * 64).toNat + j = 64 * i.toNat + j by omega, List.getElem?_eq_getElem (by rw [h.ok.now]; omega)]
          rfl
        · rw [List.getElem?_eq_none (by simpa using hj), List.getElem?_eq_none (by omega)]; rfl
      have hx := a3 [] ⟨rfl, Or.inr ⟨(q1.i 15).toNat, 0, #[], by rw [slP_pos p1]; rfl, Hl.one_self _ _, by omega, by decide, rfl, rfl⟩⟩
      rw [hseg, List.nil_append] at hx
      refine ⟨[[0, 1, 2]], [3], rfl, rfl, ⟨⟨fun k => [q2.i 16, 0, 64, q2.i 17, 0].getD k 0, fun _ => false, fun _ => .empty, fun _ => .tuple #[], fun _ => Hl.none⟩, rfl, ⟨a1, Int.le_refl _, by show (0 : Int) ≤ 64; omega, a2⟩, trivial, trivial⟩, _, i, H, D, _, _, rfl, rfl, ⟨a, s, m, es, clock, rfl, h⟩, rfl, keep q2 _ (g1.trans (g2.mono (by omega))), by rw [hr]; rfl, ?_⟩
      rw [hr]
      show OwnsH (hls [q2.h 16]) _ _ _ _ _
      rw [hls_one, hsl]
      exact hx
    · unfold readR DM.has; rw [if_pos (by simp only [decide_eq_false_iff_not]; omega)]
end Go.Proofs.YtomdimlnggpgbaaDoor.D
