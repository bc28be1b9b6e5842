/- Layer 8: Room, Bytes, Serial, Note of a log, as contracts. No condition. -/
import Derived.Test.YtomdimlnggpgbaaDoorCelI
set_option linter.unusedSimpArgs false
set_option linter.unusedVariables false
set_option linter.constructorNameAsVariable false
namespace Go.Proofs.YtomdimlnggpgbaaDoor.D
open Go Go.Sx

/-- A slice of so many bytes. -/
def slOf (sl : Value) (n : Nat) : Prop := ∃ (x y : Int) (c : Nat), sl = .slice (slP x y) n c ∧ -1 ≤ x ∧ 0 ≤ y
theorem OwB.slOf {F : Hl} {e : TypeId} {v : Value} {bs : List Int} (h : OwB F e v bs) : slOf v bs.length := by
  obtain ⟨x, c, hx, hv, _⟩ := OwB.rep h
  exact ⟨x, 0, c, hv, hx, Int.le_refl _⟩
theorem RdB.slOf {F : Hl} {v : Value} {bs : List Int} (h : RdB F v bs) : slOf v bs.length := by
  obtain ⟨x, y, c, hv, hy, h⟩ := h
  exact ⟨x, y, c, hv, by rcases h with ⟨h, _⟩ | ⟨h, _⟩ <;> omega, hy⟩
theorem slOf.uniq {sl : Value} {n m : Nat} (h : slOf sl n) (h' : slOf sl m) : n = m := by
  obtain ⟨x, y, c, rfl, _⟩ := h
  obtain ⟨x', y', c', he, _⟩ := h'
  simp only [Value.slice.injEq] at he
  exact he.2.1
theorem valP_sl0 {x y : Int} (hx : -1 ≤ x) (n c : Nat) : valP (some (.slice (slP x y) n c)) 0 = x := by
  rcases Int.lt_or_le x 0 with h | h
  · obtain rfl : x = -1 := by omega
    rfl
  · rw [slP_pos h]; show ((x.toNat : Nat) : Int) = x; omega
theorem valP_sl1 {x y : Int} (hx : 0 ≤ x) (hy : 0 ≤ y) (n c : Nat) : valP (some (.slice (slP x y) n c)) 1 = y := by
  rw [slP_pos hx]; show ((y.toNat : Nat) : Int) = y; omega
theorem valP_sl2 {x y : Int} (hx : -1 ≤ x) (n c : Nat) : valP (some (.slice (slP x y) n c)) 2 = n := by
  rcases Int.lt_or_le x 0 with h | h
  · obtain rfl : x = -1 := by omega
    rfl
  · rw [slP_pos h]; rfl
def rdLog (a : Nat) (R1 R2 : Hl) : Env := envI [(a : Int)] false [Hl.none, R2, R1]
def rdMem : Mem := [.ro 1 [.hP 2 (.var 0) (.lit 21) 0 0] false, .ro 2 [.var 0] false]
theorem rdEntry (a : Nat) (R1 R2 : Hl) (Rs : List Hl) (h1 : R1 ∈ Rs) (h2 : R2 ∈ Rs) : Entry (rdLog a R1 R2) rdMem [] Rs := by
  refine ⟨fun r hr ho => ?_, fun r hr ho => ?_, ?_, fun r hr => ?_⟩
  · simp [rdMem] at hr
    rcases hr with rfl | rfl <;> cases ho
  · simp [rdMem] at hr
    rcases hr with rfl | rfl
    · exact ⟨R2, h2, Hl.le_refl _⟩
    · exact ⟨R1, h1, Hl.le_refl _⟩
  · simp [rdMem, Res.own]
  · simp [rdMem] at hr
    rcases hr with rfl | rfl <;> trivial

/-! ### Room, Serial, Note -/
def roomS : Sx.Spec where
  fn := 34
  own := []
  rd := [0]
  res := [.one (.int .i64)]
  pre := fun xs Hs Rs => ∃ p R dp sl L n, xs = [p] ∧ Rs = [R] ∧ LogRd R p dp sl L ∧ slOf sl n ∧ n ≤ 1048576
  post := fun xs Hs Rs v Hs' F => ∃ p R dp sl L n, xs = [p] ∧ Rs = [R] ∧ LogRd R p dp sl L ∧ slOf sl n ∧ v = .int .i64 (L.most - n)
def roomNd : Nd := .and (.e (.le (.lit 0) (.var 0))) (.and (.e (.his 2 (.var 0) (.lit 2) 0 (.int .i64))) (.and (.e (.his 2 (.var 0) (.lit 21) 0 .slice)) (.and (.e (.le (.lit 0) (.hP 2 (.var 0) (.lit 21) 0 2))) (.post [.ro 1 [.hP 2 (.var 0) (.lit 21) 0 0] false, .ro 2 [.var 0] false] (.sv (.one (.int .i64 (.wrap .i64 (.sub (.hI 2 (.var 0) (.lit 2) 0) (.hP 2 (.var 0) (.lit 21) 0 2))))))))))
def roomW : Walk Tryd.prog [] roomS.fn where
  Λ := noLoops
  args := [TP (.var 0) (.lit 0)]
  mem := rdMem
  nv := 3
  nd := roomNd
  ok := by kernel_rfl
def lnoteS : Sx.Spec where
  fn := 37
  own := []
  rd := [0]
  res := [.agg (u8s 16)]
  pre := fun xs Hs Rs => ∃ p R dp sl L, xs = [p] ∧ Rs = [R] ∧ LogRd R p dp sl L
  post := fun xs Hs Rs v Hs' F => ∃ p R dp sl L, xs = [p] ∧ Rs = [R] ∧ LogRd R p dp sl L ∧ v = .agg (bys L.note).toArray
def lnoteNd : Nd := .ext (.alloc 3) (.and (.e (.le (.lit 0) (.var 0))) (.and (.e (.hby 2 (.var 0) (.lit 5) (.lit 16))) (.post [.ro 1 [.hP 2 (.var 0) (.lit 21) 0 0] false, .ro 2 [.var 0] false, .dead] (.sv (.agg (romCells 2 (.var 0) (.lit 5) 0 (List.replicate 16 (Kd.int .u8))))))))
def lnoteW : Walk Tryd.prog [] lnoteS.fn where
  Λ := noLoops
  args := [TP (.var 0) (.lit 0)]
  mem := rdMem
  nv := 3
  nd := lnoteNd
  ok := by kernel_rfl
theorem LogIn.at21 {R : Hl} {a : Nat} {dp sl : Value} {L : LM} (h : LogIn R a dp sl L) : R.cell a 21 = some sl := by
  rw [h.cell]
  unfold lCells
  rw [List.getElem?_append_right (by simp), List.getElem?_append_right (by rw [bys_length, h.1.note]; simp)]
  rw [bys_length, h.1.note]; rfl
theorem LogIn.note_at {R : Hl} {a : Nat} {dp sl : Value} {L : LM} (h : LogIn R a dp sl L) : ∀ j z, L.note[j]? = some z → R.cell a (5 + j) = some (.int .u8 z) := by
  intro j z hz
  rw [h.cell]
  unfold lCells
  have hj := (List.getElem?_eq_some_iff.1 hz).1
  rw [List.getElem?_append_right (by simp), List.getElem?_append_left (by rw [bys_length]; simp; omega), bys_get]
  rw [show 5 + j - _ = j from by simp, hz]; rfl
theorem roomS_ok : roomS.OK Tryd.prog := by
  refine Spec.of_fn (Γ := []) (fun _ h => by cases h) ?_
  rintro xs Hs Rs hl1 hl2 ⟨p, R, dp, sl, L, n, rfl, rfl, ⟨a, rfl, hL⟩, hs, hn⟩
  have e0 : Hs = [] := List.length_eq_zero_iff.1 hl1
  subst e0
  refine ⟨roomW, rdLog a R R, fun _ _ => True, fun _ _ => 0, ?_, rdEntry a R R _ (by simp) (by simp), (fun _ h => nomatch h), ?_⟩
  · show [Value.pointer (slP (a : Int) 0)] = _; rw [dArg]
  · show Nd.holds _ _ _ roomNd
    unfold roomNd
    simp only [Nd.holds, X.pre, X.rel, X.n, Src.ok, Src.len, Src.vals, true_and, and_true, if_true, Nat.mul_one, Nat.add_zero, Nat.reduceAdd, List.length_cons, List.length_nil, bT_tt, bT_ff, bT_bvar, bT_not, bT_and, bT_or, bT_ite, bT_lt, bT_le, bT_eq, bT_beq, bT_seq, bT_hB, bT_his, bT_hby, bT_hism, bT_hks, iev_lit, iev_var, iev_add, iev_sub, iev_mul, iev_wrap, iev_ite, iev_hI, iev_hP, iev_hmlen, sev_ite, sev_slit, sev_sof, sev_svar, TV.ev, SV.ev, CV.ev, List.map_cons, List.map_nil, Res.hl]
    have v0 : (rdLog a R R).i 0 = a := rfl
    have w2 : (rdLog a R R).h 2 = R := rfl
    have c2 : R.cell a 2 = some (.int .i64 L.most) := by rw [hL.cell]; rfl
    have c21 := hL.at21
    obtain ⟨x, y, c, hsl, hx, hy⟩ := id hs
    obtain ⟨m0, m1⟩ := hL.1.most
    rw [v0, w2, Int.toNat_natCast, show Int.toNat 2 = 2 from rfl, show Int.toNat 21 = 21 from rfl, c2, c21, hsl]
    refine ⟨by omega, rfl, rfl, by rw [valP_sl2 hx]; omega, fun _ => ⟨[], [], rfl, rfl, ⟨⟨fun _ => L.most - n, fun _ => false, fun _ => .empty, fun _ => .tuple #[], fun _ => Hl.none⟩, ?_, trivial, trivial⟩, _, R, dp, sl, L, n, rfl, rfl, ⟨a, rfl, hL⟩, hs, ?_⟩⟩
    all_goals
      show Value.int .i64 (IntKind.i64.wrap (valI (R.cell ((a : Int)).toNat 2) - valP (R.cell ((a : Int)).toNat 21) 2)) = Value.int .i64 (L.most - n)
      rw [Int.toNat_natCast, c2, c21, hsl]
      rw [valP_sl2 hx]
      show Value.int .i64 (IntKind.i64.wrap (L.most - (n : Int))) = _
      rw [wrap_i64 (by omega) (by omega)]
theorem lnoteS_ok : lnoteS.OK Tryd.prog := by
  refine Spec.of_fn (Γ := []) (fun _ h => by cases h) ?_
  rintro xs Hs Rs hl1 hl2 ⟨p, R, dp, sl, L, rfl, rfl, ⟨a, rfl, hL⟩⟩
  have e0 : Hs = [] := List.length_eq_zero_iff.1 hl1
  subst e0
  refine ⟨lnoteW, rdLog a R R, fun _ _ => True, fun _ _ => 0, ?_, rdEntry a R R _ (by simp) (by simp), (fun _ h => nomatch h), ?_⟩
  · show [Value.pointer (slP (a : Int) 0)] = _; rw [dArg]
  · show Nd.holds _ _ _ lnoteNd
    unfold lnoteNd
    simp only [Nd.holds, X.pre, X.rel, X.n, Src.ok, Src.len, Src.vals, true_and, and_true, if_true, Nat.mul_one, Nat.add_zero, Nat.reduceAdd, List.length_cons, List.length_nil, bT_tt, bT_ff, bT_bvar, bT_not, bT_and, bT_or, bT_ite, bT_lt, bT_le, bT_eq, bT_beq, bT_seq, bT_hB, bT_his, bT_hby, bT_hism, bT_hks, iev_lit, iev_var, iev_add, iev_sub, iev_mul, iev_wrap, iev_ite, iev_hI, iev_hP, iev_hmlen, sev_ite, sev_slit, sev_sof, sev_svar, TV.ev, SV.ev, CV.ev, List.map_cons, List.map_nil, Res.hl]
    intro q g _
    have v0 : q.i 0 = a := g.i 0 (by omega)
    have w2 : q.h 2 = R := g.h 2 (by omega)
    have hc := hL.note_at
    rw [v0, w2, Int.toNat_natCast, show Int.toNat 5 = 5 from rfl, show Int.toNat 16 = 16 from rfl]
    have er : (romCells 2 (E.var 0) (E.lit 5) 0 (List.replicate 16 (Kd.int IntKind.u8))).map (CV.ev q) = bys L.note := by
      refine romCells_ev 16 0 _ hL.1.note fun i z hz => ?_
      rw [iev_var, iev_lit, v0, w2, Int.toNat_natCast, Nat.zero_add]
      exact hc _ _ hz
    refine ⟨by omega, cells_bytes hc (by rw [hL.1.note]; omega), fun _ => ⟨[], [], rfl, rfl, ?_, _, R, dp, sl, L, rfl, rfl, ⟨a, rfl, hL⟩, ?_⟩⟩
    · obtain ⟨c, _, _, ec⟩ := row_rep (u8s 16) 0 (bys L.note) ⟨fun _ => 0, fun _ => false, fun _ => .empty, fun _ => .tuple #[], fun _ => Hl.none⟩ (rowOK_bys 16 _ hL.1.note)
      refine ⟨c, ?_, ckNorms_pure _ _ _ (by decide), trivial⟩
      show Value.agg (List.map (CV.ev q) _).toArray = Value.agg ((ckCVs 0 (u8s 16)).map (CV.ev c)).toArray
      rw [er, ec]
    · show Value.agg (List.map (CV.ev q) _).toArray = _
      rw [er]

/-! ### Bytes -/
def bytesS : Sx.Spec where
  fn := 32
  own := []
  rd := [0, 1021]
  res := [.one .sl]
  pre := fun xs Hs Rs => ∃ p R1 R2 dp sl L bs, xs = [p] ∧ Rs = [R1, R2] ∧ LogRd R1 p dp sl L ∧ RdB R2 sl bs ∧ bs.length ≤ 1048576
  post := fun xs Hs Rs v Hs' F => ∃ p R1 R2 dp sl L bs, xs = [p] ∧ Rs = [R1, R2] ∧ LogRd R1 p dp sl L ∧ RdB R2 sl bs ∧ OwB F 5 v bs
def bytesNd : Nd := .and (.e (.le (.lit 0) (.var 0))) (.and (.e (.his 2 (.var 0) (.lit 21) 0 .slice)) (.and (.imp (.eq (.hP 2 (.var 0) (.lit 21) 0 0) (.lit (-1))) (.post [.ro 1 [.hP 2 (.var 0) (.lit 21) 0 0] false, .ro 2 [.var 0] false] (.sv (.one (.sl (.lit (-1)) (.lit 0) (.lit 0) (.lit 0)))))) (.imp (.not (.eq (.hP 2 (.var 0) (.lit 21) 0 0) (.lit (-1)))) (.ext (.alloc 3) (.and (.pre (.app 4 5 1 1 (.sl (.var 3) (.lit 0) (.lit 0) (.lit 0)) (.lit 0) (.blk 3 [] 5) (.seg 1 (.hP 2 (.var 0) (.lit 21) 0 0) (.hP 2 (.var 0) (.lit 21) 0 1) (.hP 2 (.var 0) (.lit 21) 0 2)))) (.ext (.app 4 5 1 1 (.sl (.var 3) (.lit 0) (.lit 0) (.lit 0)) (.lit 0) (.blk 3 [] 5) (.seg 1 (.hP 2 (.var 0) (.lit 21) 0 0) (.hP 2 (.var 0) (.lit 21) 0 1) (.hP 2 (.var 0) (.lit 21) 0 2))) (.post [.ro 1 [.hP 2 (.var 0) (.lit 21) 0 0] false, .ro 2 [.var 0] false, .hp 4 [] [.var 4, .var 3] []] (.sv (.one (.sl (.var 4) (.lit 0) (.hP 2 (.var 0) (.lit 21) 0 2) (.var 5)))))))))))
def bytesW : Walk Tryd.prog [] bytesS.fn where
  Λ := noLoops
  args := [TP (.var 0) (.lit 0)]
  mem := rdMem
  nv := 3
  nd := bytesNd
  ok := by kernel_rfl
theorem bytesS_ok : bytesS.OK Tryd.prog := by
  refine Spec.of_fn (Γ := []) (fun _ h => by cases h) ?_
  rintro xs Hs Rs hl1 hl2 ⟨p, R1, R2, dp, sl, L, bs, rfl, rfl, ⟨a, rfl, hL⟩, hB, hn⟩
  have e0 : Hs = [] := List.length_eq_zero_iff.1 hl1
  subst e0
  refine ⟨bytesW, rdLog a R1 R2, fun _ _ => True, fun _ _ => 0, ?_, rdEntry a R1 R2 _ (by simp) (by simp), (fun _ h => nomatch h), ?_⟩
  · show [Value.pointer (slP (a : Int) 0)] = _; rw [dArg]
  · show Nd.holds _ _ _ bytesNd
    unfold bytesNd
    simp only [Nd.holds, X.pre, X.rel, X.n, Src.ok, Src.len, Src.vals, true_and, and_true, if_true, Nat.mul_one, Nat.add_zero, Nat.reduceAdd, List.length_cons, List.length_nil, bT_tt, bT_ff, bT_bvar, bT_not, bT_and, bT_or, bT_ite, bT_lt, bT_le, bT_eq, bT_beq, bT_seq, bT_hB, bT_his, bT_hby, bT_hism, bT_hks, iev_lit, iev_var, iev_add, iev_sub, iev_mul, iev_wrap, iev_ite, iev_hI, iev_hP, iev_hmlen, sev_ite, sev_slit, sev_sof, sev_svar, TV.ev, SV.ev, CV.ev, List.map_cons, List.map_nil, Res.hl]
    have c21 := hL.at21
    obtain ⟨x, y, c, hsl, hy, hc⟩ := id hB
    have hx : -1 ≤ x := by rcases hc with ⟨h, _⟩ | ⟨h, _⟩ <;> omega
    have w2 : (rdLog a R1 R2).h 2 = R1 := rfl
    have v0 : (rdLog a R1 R2).i 0 = a := rfl
    have t0 : Int.toNat 0 = 0 := rfl
    rw [v0, w2, Int.toNat_natCast, show Int.toNat 21 = 21 from rfl, c21, hsl, valP_sl0 hx]
    refine ⟨by omega, rfl, fun h => fun _ => ?_, fun h q g p3 => ?_⟩
    · have hbs : bs = [] := by
        rcases hc with ⟨_, h'⟩ | ⟨h', _⟩
        · exact h'
        · omega
      subst hbs
      exact ⟨[], [], rfl, rfl, ⟨⟨fun k => [-1, 0, 0, 0].getD k 0, fun _ => false, fun _ => .empty, fun _ => .tuple #[], fun _ => Hl.none⟩, rfl, ⟨by show (-1 : Int) ≤ -1; omega, Int.le_refl _, Int.le_refl _, Int.le_refl _⟩, trivial⟩, _, R1, R2, dp, sl, L, [], rfl, rfl, ⟨a, rfl, hL⟩, hB, ⟨rfl, Or.inl ⟨rfl, rfl⟩⟩⟩
    · have hx0 : 0 ≤ x := by omega
      have hcell : ∀ (j : Nat) (z : Int), bs[j]? = some z → R2.cell x.toNat (y.toNat + j) = some (.int .u8 z) := by
        rcases hc with ⟨h', _⟩ | ⟨_, h'⟩
        · omega
        · exact h'
      have hsl' := hsl
      rw [g.i 0 (by omega), v0, g.h 2 (by omega), w2, g.h 1 (by omega), show (rdLog a R1 R2).h 1 = R2 from rfl, Int.toNat_natCast, c21, hsl, valP_sl0 hx, valP_sl1 hx0 hy, valP_sl2 hx, t0, Int.toNat_natCast]
      have hnil : OwnsH (Hl.one (q.i 3).toNat (.cells #[] 5 (0, 0))) 5 1 (.slice (slP (q.i 3) 0) 0 0) 0 [] := ⟨rfl, Or.inr ⟨(q.i 3).toNat, 0, #[], by rw [slP_pos p3]; rfl, Hl.one_self _ _, by omega, by decide, rfl, rfl⟩⟩
      refine ⟨⟨⟨[], hnil⟩, by omega, Or.inl ⟨hx0, hy, by omega, fun j hj => ?_⟩, by unfold maxLen; omega, by omega⟩, fun q2 g2 ⟨a1, a2, a3, _⟩ => ?_⟩
      · exact ⟨_, hcell j _ (List.getElem?_eq_getElem hj), rfl⟩
      · have hseg : segVals R2 x.toNat y.toNat bs.length = bys bs := by
          unfold segVals
          apply List.ext_getElem?
          intro j
          rw [List.getElem?_map, bys_get]
          rcases Nat.lt_or_ge j bs.length with hj | hj
          · rw [List.getElem?_range hj, Option.map_some, hcell j _ (List.getElem?_eq_getElem hj), List.getElem?_eq_getElem hj]
            rfl
          · rw [List.getElem?_eq_none (by simpa using hj), List.getElem?_eq_none (by omega)]; rfl
        have hx' := a3 _ hnil
        rw [hseg, List.nil_append, Nat.zero_add] at hx'
        have G2 : Agree 3 (rdLog a R1 R2) q2 := g.trans (g2.mono (by omega))
        have ev : (TV.sv (SV.one (CV.sl (.var 4) (.lit 0) (.hP 2 (.var 0) (.lit 21) 0 2) (.var 5)))).ev q2 = .slice (slP (q2.i 4) 0) bs.length (q2.i 5).toNat := by
          show Value.slice (slP (q2.i 4) 0) (iev q2 (.hP 2 (.var 0) (.lit 21) 0 2)).toNat (q2.i 5).toNat = _
          rw [iev_hP, iev_var, iev_lit, G2.i 0 (by omega), v0, G2.h 2 (by omega), w2, Int.toNat_natCast, show Int.toNat 21 + 0 = 21 from rfl, c21, hsl, valP_sl2 hx, Int.toNat_natCast]
        refine fun _ => ⟨[], [2], rfl, rfl, ⟨⟨fun k => [q2.i 4, 0, bs.length, q2.i 5].getD k 0, fun _ => false, fun _ => .empty, fun _ => .tuple #[], fun _ => Hl.none⟩, ?_, ⟨a1, Int.le_refl _, by show (0 : Int) ≤ (bs.length : Int); omega, a2⟩, trivial⟩, _, R1, R2, dp, sl, L, bs, rfl, rfl, ⟨a, rfl, hL⟩, hB, ?_⟩
        · rw [ev]; show _ = Value.slice (slP (q2.i 4) 0) ((bs.length : Int)).toNat (q2.i 5).toNat
          rw [Int.toNat_natCast]
        · rw [ev]
          show OwB (hls [q2.h 4]) _ _ _
          rw [hls_one]
          exact hx'
end Go.Proofs.YtomdimlnggpgbaaDoor.D
