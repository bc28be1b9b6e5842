/- Layer 9: store.big, generation, slices.Clone of bytes, Left, Bad, as contracts. Condition: at most a million bytes. -/
import Derived.Test.YtomdimlnggpgbaaDoorPkI
import Derived.Test.YtomdimlnggpgbaaDoorCelP
set_option linter.unusedSimpArgs false
set_option linter.unusedVariables false
set_option linter.constructorNameAsVariable false
namespace Go.Proofs.YtomdimlnggpgbaaDoor
open Go Go.Sx Go.Pk
open Go.Proofs.YtomdimlnggpgbaaDoor.D hiding envI noLoops numS

def cloneSS : Sx.Spec where
  fn := 38
  own := []
  rd := [0]
  res := [.one .sl]
  pre := fun xs Hs Rs => ∃ u bs R, xs = [u] ∧ Rs = [R] ∧ RdW R u bs ∧ bs.length ≤ 1000000
  post := fun xs Hs Rs v Hs' F => ∃ u bs R, xs = [u] ∧ Rs = [R] ∧ RdW R u bs ∧ OwB F 5 v bs
def cloneSNd : Nd := .and (.imp (.eq (.var 0) (.lit (-1))) (.post [.ro 4 [.var 0] false] (.sv (.one (.sl (.lit (-1)) (.lit 0) (.lit 0) (.lit 0)))))) (.imp (.not (.eq (.var 0) (.lit (-1)))) (.ext (.alloc 5) (.and (.pre (.app 6 5 1 1 (.sl (.var 5) (.lit 0) (.lit 0) (.lit 0)) (.lit 0) (.blk 5 [] 5) (.seg 4 (.var 0) (.var 1) (.var 2)))) (.ext (.app 6 5 1 1 (.sl (.var 5) (.lit 0) (.lit 0) (.lit 0)) (.lit 0) (.blk 5 [] 5) (.seg 4 (.var 0) (.var 1) (.var 2))) (.post [.ro 4 [.var 0] false, .hp 6 [] [.var 6, .var 5] []] (.sv (.one (.sl (.var 6) (.lit 0) (.var 2) (.var 7)))))))))
def cloneSW : Walk Tryd.prog [] cloneSS.fn where
  Λ := noLoops
  args := [.sv (.one (.sl (.var 0) (.var 1) (.var 2) (.var 3)))]
  mem := [.ro 4 [.var 0] false]
  nv := 5
  nd := cloneSNd
  ok := by kernel_rfl
theorem cloneSS_ok : cloneSS.OK Tryd.prog := by
  refine Spec.of_fn (Γ := []) (fun _ h => by cases h) ?_
  rintro xs Hs Rs hl1 hl2 ⟨u, bs, R, rfl, rfl, hRd, hlen⟩
  have e0 : Hs = [] := List.length_eq_zero_iff.1 hl1
  subst e0
  obtain ⟨x, y, c, rfl, hy, hR⟩ := id hRd
  refine ⟨cloneSW, envI [x, y, bs.length, c] false [Hl.none, Hl.none, Hl.none, Hl.none, R], fun _ _ => True, fun _ _ => 0, ?_, ⟨?_, ?_, ?_, ?_⟩, (fun _ h => nomatch h), ?_⟩
  · show [Value.slice (slP x y) ((bs.length : Int)).toNat ((c : Int)).toNat] = _
    rw [Int.toNat_natCast, Int.toNat_natCast]
  · intro r hr ho; simp [cloneSW] at hr; subst hr; cases ho
  · intro r hr ho; simp [cloneSW] at hr; subst hr; exact ⟨R, by simp, Hl.le_refl _⟩
  · simp [cloneSW]
  · intro r hr; simp [cloneSW] at hr; subst hr; trivial
  · show Nd.holds _ _ _ cloneSNd
    generalize hρ : envI [x, y, bs.length, c] false [Hl.none, Hl.none, Hl.none, Hl.none, R] = ρ
    have v0 : ρ.i 0 = x := by rw [← hρ]; rfl
    have v1 : ρ.i 1 = y := by rw [← hρ]; rfl
    have v2 : ρ.i 2 = bs.length := by rw [← hρ]; rfl
    have w4 : ρ.h 4 = R := by rw [← hρ]; rfl
    clear hρ
    unfold cloneSNd
    simp only [Nd.holds, X.pre, X.rel, X.n, Src.ok, Src.len, Src.vals, true_and, and_true, if_true, Nat.mul_one, Nat.add_zero, Nat.reduceAdd, List.length_cons, List.length_nil, bT_tt, bT_ff, bT_bvar, bT_not, bT_and, bT_or, bT_ite, bT_lt, bT_le, bT_eq, bT_beq, bT_seq, bT_hB, bT_his, bT_hby, bT_hism, bT_hks, iev_lit, iev_var, iev_add, iev_sub, iev_mul, iev_wrap, iev_ite, iev_hI, iev_hP, iev_hmlen, sev_ite, sev_slit, sev_sof, sev_svar, TV.ev, SV.ev, CV.ev, List.map_cons, List.map_nil, Res.hl]
    refine ⟨fun hx _ => ?_, fun hx q1 g1 p5 => ?_⟩
    · have hnil : bs = [] := by
        rcases hR with h | ⟨h, _⟩
        · exact h
        · omega
      refine ⟨[], [], rfl, rfl, ⟨⟨fun k => if k = 0 then -1 else 0, fun _ => false, fun _ => .empty, fun _ => .tuple #[], fun _ => Hl.none⟩, rfl, ⟨Int.le_refl _, Int.le_refl _, Int.le_refl _, Int.le_refl _⟩, trivial⟩, _, bs, R, rfl, rfl, hRd, ?_⟩
      rw [hnil]
      exact ⟨rfl, Or.inl ⟨rfl, rfl⟩⟩
    · obtain ⟨hok, hseg⟩ := seg_of (R := R) (x := x) (y := y) (l := (bs.length : Int)) rfl hy hR
      have ho0 := own0 (Hl.one (q1.i 5).toNat (.cells #[] 5 (0, 0))) p5 rfl
      rw [g1.i 0 (by omega), g1.i 1 (by omega), g1.i 2 (by omega), g1.h 4 (by omega), v0, v1, v2, w4]
      refine ⟨⟨⟨_, ho0⟩, Int.le_refl _, by simpa using hok, by rw [Int.toNat_natCast]; unfold maxLen; simp; omega, by rw [Int.toNat_natCast]; simp; omega⟩, fun q2 g2 ⟨a1, a2, a3, _⟩ => fun _ => ?_⟩
      have hx2 := a3 _ ho0
      rw [hseg, List.nil_append] at hx2
      refine ⟨[], [1], rfl, rfl, ⟨⟨fun k => [q2.i 6, 0, q2.i 2, q2.i 7].getD k 0, fun _ => false, fun _ => .empty, fun _ => .tuple #[], fun _ => Hl.none⟩, rfl, ⟨a1, Int.le_refl _, ?_, a2⟩, trivial⟩, _, bs, R, rfl, rfl, hRd, ?_⟩
      · show 0 ≤ q2.i 2
        rw [g2.i 2 (by omega), g1.i 2 (by omega), v2]; omega
      · show OwB (hls [q2.h 6]) _ (.slice (slP (q2.i 6) 0) (q2.i 2).toNat (q2.i 7).toNat) bs
        rw [hls_one, g2.i 2 (by omega), g1.i 2 (by omega), v2]
        unfold OwB
        rw [Int.toNat_natCast]
        simpa using hx2
/-! ### big -/
def sbigS : Sx.Spec where
  fn := 67
  own := []
  rd := [0]
  res := [.one (.int .u64)]
  pre := fun xs Hs Rs => ∃ u bs R, xs = [u] ∧ Rs = [R] ∧ RdW R u bs ∧ bs.length ≤ 1000
  post := fun xs Hs Rs v Hs' F => ∃ u bs R, xs = [u] ∧ Rs = [R] ∧ RdW R u bs ∧ v = .int .u64 (bigI bs)
def sbigNd : Nd := .and (.e (.le (.lit 0) (.var 2))) (.and (.inv 0 [⟨10, 0, .int .i64 (.lit 0)⟩, ⟨11, 0, .int .i64 (.lit 0)⟩] []) (.havoc 0 0 5 (.and (.imp (.lt (.var 11) (.var 2)) (.and (.e (.le (.lit 0) (.var 0))) (.and (.e (.le (.lit 0) (.var 1))) (.and (.e (.le (.lit 0) (.var 11))) (.and (.e (.his 4 (.var 0) (.add (.var 1) (.var 11)) 0 (.int .u8))) (.back 0 0 [⟨10, 0, .int .i64 (.bits .or .u64 (.shl .u64 (.var 10) (.lit 8)) (.wrap .u64 (.hI 4 (.var 0) (.add (.var 1) (.var 11)) 0)))⟩, ⟨11, 0, .int .i64 (.wrap .i64 (.add (.var 11) (.lit 1)))⟩] [])))))) (.imp (.not (.lt (.var 11) (.var 2))) (.post [.ro 4 [.var 0] false] (.sv (.one (.int .u64 (.var 10)))))))))
def sbigW : Walk Tryd.prog [] sbigS.fn where
  Λ := fun p => if lp p then some ⟨0, [(3, TI .u64 (.var 10)), (8, TI .i64 (.var 11))], [], 12⟩ else none
  args := [.sv (.one (.sl (.var 0) (.var 1) (.var 2) (.var 3)))]
  mem := [.ro 4 [.var 0] false]
  nv := 5
  nd := sbigNd
  ok := by kernel_rfl
theorem sbigS_ok : sbigS.OK Tryd.prog := by
  refine Spec.of_fn (Γ := []) (fun _ h => by cases h) ?_
  rintro xs Hs Rs hl1 hl2 ⟨u, bs, R, rfl, rfl, ⟨x, y, cp, rfl, hy, hR⟩, hlen⟩
  have e0 : Hs = [] := List.length_eq_zero_iff.1 hl1
  subst e0
  refine ⟨sbigW, envI [x, y, bs.length, cp] false [Hl.none, Hl.none, Hl.none, Hl.none, R], bigInv bs, fun _ q => (bs.length - q.i 11).toNat, ?_, ⟨?_, ?_, ?_, ?_⟩, (fun _ h => nomatch h), ?_⟩
  · show [Value.slice (slP x y) ((bs.length : Int)).toNat ((cp : Int)).toNat] = _
    rw [Int.toNat_natCast, Int.toNat_natCast]
  · intro r hr ho; simp [sbigW] at hr; subst hr; cases ho
  · intro r hr ho; simp [sbigW] at hr; subst hr; exact ⟨R, by simp, Hl.le_refl _⟩
  · simp [sbigW]
  · intro r hr; simp [sbigW] at hr; subst hr; trivial
  · show Nd.holds _ _ _ sbigNd
    generalize hρ : envI [x, y, bs.length, cp] false [Hl.none, Hl.none, Hl.none, Hl.none, R] = ρ
    have v0 : ρ.i 0 = x := by rw [← hρ]; rfl
    have v1 : ρ.i 1 = y := by rw [← hρ]; rfl
    have v2 : ρ.i 2 = bs.length := by rw [← hρ]; rfl
    have w4 : ρ.h 4 = R := by rw [← hρ]; rfl
    unfold sbigNd
    simp only [Nd.holds, X.pre, X.rel, X.n, Src.ok, Src.len, Src.vals, true_and, and_true, if_true, Nat.mul_one, Nat.add_zero, Nat.reduceAdd, List.length_cons, List.length_nil, bT_tt, bT_ff, bT_bvar, bT_not, bT_and, bT_or, bT_ite, bT_lt, bT_le, bT_eq, bT_beq, bT_seq, bT_hB, bT_his, bT_hby, bT_hism, bT_hks, iev_lit, iev_var, iev_add, iev_sub, iev_mul, iev_wrap, iev_ite, iev_hI, iev_hP, iev_hmlen, sev_ite, sev_slit, sev_sof, sev_svar, TV.ev, SV.ev, CV.ev, List.map_cons, List.map_nil, Res.hl]
    rw [v2]
    refine ⟨by omega, ⟨0, by omega, rfl, rfl⟩, fun q g ⟨k, hk, h11, h10⟩ => ?_⟩
    rw [g.i 0 (by omega), g.i 1 (by omega), g.i 2 (by omega), g.h 4 (by omega), v0, v1, v2, w4, h11]
    refine ⟨fun hlt => ?_, fun hge => ?_⟩
    · have hk' : k < bs.length := by omega
      have hxr : 0 ≤ x ∧ ∀ j z, bs[j]? = some z → R.cell x.toNat (y.toNat + j) = some (.int .u8 z) := by
        rcases hR with h | h
        · subst h; simp at hk'
        · exact h
      have hc : R.cell x.toNat (y + k).toNat = some (.int .u8 bs[k]) := by
        rw [show (y + (k : Int)).toNat = y.toNat + k by omega]
        exact hxr.2 _ _ (List.getElem?_eq_getElem hk')
      rw [hc]
      refine ⟨hxr.1, hy, by omega, rfl, ⟨k + 1, by omega, ?_, ?_⟩, ?_⟩
      · show IntKind.i64.wrap (q.i 11 + 1) = _
        rw [h11]; exact wrap_i64 (by omega) (by omega)
      · show bigB (q.i 10) (valI ((q.h 4).cell (q.i 0).toNat (q.i 1 + q.i 11).toNat)) = _
        rw [h10, g.i 0 (by omega), g.i 1 (by omega), g.h 4 (by omega), v0, v1, w4, h11, hc, bigI_take bs k hk']
        rfl
      · show ((bs.length : Int) - IntKind.i64.wrap (q.i 11 + 1)).toNat < _
        rw [h11, wrap_i64 (by omega) (by omega)]; omega
    · have e : k = bs.length := by omega
      subst e
      rw [List.take_length] at h10
      refine fun _ => ⟨[], [], rfl, rfl, ⟨⟨fun _ => q.i 10, fun _ => false, fun _ => .empty, fun _ => .tuple #[], fun _ => Hl.none⟩, rfl, trivial, trivial⟩, _, bs, R, rfl, rfl, ⟨x, y, cp, rfl, hy, hR⟩, ?_⟩
      show Value.int .u64 (q.i 10) = _
      rw [h10]
/-! ### Left, Bad -/
def leftS : Sx.Spec where
  fn := 68
  own := []
  rd := [0]
  res := [.one (.int .i64)]
  pre := fun xs Hs Rs => ∃ p R bs bad, xs = [p] ∧ Rs = [R] ∧ InAt R p bs bad
  post := fun xs Hs Rs v Hs' F => ∃ p R bs bad, xs = [p] ∧ Rs = [R] ∧ InAt R p bs bad ∧ v = .int .i64 bs.length
def badS : Sx.Spec where
  fn := 70
  own := []
  rd := [0]
  res := [.one .bool]
  pre := fun xs Hs Rs => ∃ p R bs bad, xs = [p] ∧ Rs = [R] ∧ InAt R p bs bad
  post := fun xs Hs Rs v Hs' F => ∃ p R bs bad, xs = [p] ∧ Rs = [R] ∧ InAt R p bs bad ∧ v = .bool bad
def leftNd : Nd := .and (.e (.le (.lit 0) (.var 0))) (.and (.e (.his 1 (.var 0) (.lit 0) 0 .slice)) (.and (.e (.le (.lit 0) (.hP 1 (.var 0) (.lit 0) 0 2))) (.post [.ro 1 [.var 0] false] (.sv (.one (.int .i64 (.hP 1 (.var 0) (.lit 0) 0 2)))))))
def leftW : Walk Tryd.prog [] leftS.fn where
  Λ := noLoops
  args := [TP (.var 0) (.lit 0)]
  mem := [.ro 1 [.var 0] false]
  nv := 2
  nd := leftNd
  ok := by kernel_rfl
def badNd : Nd := .and (.e (.le (.lit 0) (.var 0))) (.and (.e (.his 1 (.var 0) (.lit 1) 0 .bool)) (.post [.ro 1 [.var 0] false] (.sv (.one (.bool (.hB 1 (.var 0) (.lit 1) 0))))))
def badW : Walk Tryd.prog [] badS.fn where
  Λ := noLoops
  args := [TP (.var 0) (.lit 0)]
  mem := [.ro 1 [.var 0] false]
  nv := 2
  nd := badNd
  ok := by kernel_rfl
theorem leftS_ok : leftS.OK Tryd.prog := by
  refine Spec.of_fn (Γ := []) (fun _ h => by cases h) ?_
  rintro xs Hs Rs hl1 hl2 ⟨p, R, bs, bad, rfl, rfl, hIn⟩
  have e0 : Hs = [] := List.length_eq_zero_iff.1 hl1
  subst e0
  obtain ⟨a, x, y, c, rfl, hc0, hc1, hx, hy, hR⟩ := hIn.whole
  refine ⟨leftW, envI [(a : Int)] false [Hl.none, R], fun _ _ => True, fun _ _ => 0, ?_, ⟨?_, ?_, ?_, ?_⟩, (fun _ h => nomatch h), ?_⟩
  · show [Value.pointer (slP (a : Int) 0)] = _
    rw [ptr0]
  · intro r hr ho; simp [leftW] at hr; subst hr; cases ho
  · intro r hr ho; simp [leftW] at hr; subst hr; exact ⟨R, by simp, Hl.le_refl _⟩
  · simp [leftW]
  · intro r hr; simp [leftW] at hr; subst hr; trivial
  · show Nd.holds _ _ _ leftNd
    generalize hρ : envI [(a : Int)] false [Hl.none, R] = ρ
    have v0 : ρ.i 0 = a := by rw [← hρ]; rfl
    have w1 : ρ.h 1 = R := by rw [← hρ]; rfl
    clear hρ
    have tn0 : Int.toNat 0 = 0 := rfl
    unfold leftNd
    simp only [Nd.holds, X.pre, X.rel, X.n, Src.ok, Src.len, Src.vals, true_and, and_true, if_true, Nat.mul_one, Nat.add_zero, Nat.reduceAdd, List.length_cons, List.length_nil, bT_tt, bT_ff, bT_bvar, bT_not, bT_and, bT_or, bT_ite, bT_lt, bT_le, bT_eq, bT_beq, bT_seq, bT_hB, bT_his, bT_hby, bT_hism, bT_hks, iev_lit, iev_var, iev_add, iev_sub, iev_mul, iev_wrap, iev_ite, iev_hI, iev_hP, iev_hmlen, sev_ite, sev_slit, sev_sof, sev_svar, TV.ev, SV.ev, CV.ev, List.map_cons, List.map_nil, Res.hl, tn0]
    rw [v0, w1, Int.toNat_natCast, hc0, sl2 hx]
    refine ⟨by omega, rfl, by omega, fun _ => ⟨[], [], rfl, rfl, ⟨⟨fun _ => bs.length, fun _ => false, fun _ => .empty, fun _ => .tuple #[], fun _ => Hl.none⟩, ?_, trivial, trivial⟩, _, R, bs, bad, rfl, rfl, hIn, ?_⟩⟩
    all_goals
      show Value.int .i64 (valP (((ρ.h 1).cell (ρ.i 0).toNat (Int.toNat 0 + 0))) 2) = _
      rw [v0, w1, Int.toNat_natCast, tn0, Nat.add_zero, hc0, sl2 hx]
      try rfl
theorem badS_ok : badS.OK Tryd.prog := by
  refine Spec.of_fn (Γ := []) (fun _ h => by cases h) ?_
  rintro xs Hs Rs hl1 hl2 ⟨p, R, bs, bad, rfl, rfl, hIn⟩
  have e0 : Hs = [] := List.length_eq_zero_iff.1 hl1
  subst e0
  obtain ⟨a, x, y, c, rfl, hc0, hc1, hx, hy, hR⟩ := hIn.whole
  refine ⟨badW, envI [(a : Int)] false [Hl.none, R], fun _ _ => True, fun _ _ => 0, ?_, ⟨?_, ?_, ?_, ?_⟩, (fun _ h => nomatch h), ?_⟩
  · show [Value.pointer (slP (a : Int) 0)] = _
    rw [ptr0]
  · intro r hr ho; simp [badW] at hr; subst hr; cases ho
  · intro r hr ho; simp [badW] at hr; subst hr; exact ⟨R, by simp, Hl.le_refl _⟩
  · simp [badW]
  · intro r hr; simp [badW] at hr; subst hr; trivial
  · show Nd.holds _ _ _ badNd
    generalize hρ : envI [(a : Int)] false [Hl.none, R] = ρ
    have v0 : ρ.i 0 = a := by rw [← hρ]; rfl
    have w1 : ρ.h 1 = R := by rw [← hρ]; rfl
    clear hρ
    have tn1 : Int.toNat 1 = 1 := rfl
    unfold badNd
    simp only [Nd.holds, X.pre, X.rel, X.n, Src.ok, Src.len, Src.vals, true_and, and_true, if_true, Nat.mul_one, Nat.add_zero, Nat.reduceAdd, List.length_cons, List.length_nil, bT_tt, bT_ff, bT_bvar, bT_not, bT_and, bT_or, bT_ite, bT_lt, bT_le, bT_eq, bT_beq, bT_seq, bT_hB, bT_his, bT_hby, bT_hism, bT_hks, iev_lit, iev_var, iev_add, iev_sub, iev_mul, iev_wrap, iev_ite, iev_hI, iev_hP, iev_hmlen, sev_ite, sev_slit, sev_sof, sev_svar, TV.ev, SV.ev, CV.ev, List.map_cons, List.map_nil, Res.hl, tn1]
    rw [v0, w1, Int.toNat_natCast, hc1]
    refine ⟨by omega, rfl, fun _ => ⟨[], [], rfl, rfl, ⟨⟨fun _ => 0, fun _ => bad, fun _ => .empty, fun _ => .tuple #[], fun _ => Hl.none⟩, ?_, trivial, trivial⟩, _, R, bs, bad, rfl, rfl, hIn, ?_⟩⟩
    all_goals
      show Value.bool (valB (((ρ.h 1).cell (ρ.i 0).toNat (Int.toNat 1 + 0)))) = _
      rw [v0, w1, Int.toNat_natCast, tn1, hc1]
      try rfl
/-! ### generation -/
def genI (L : LM) : Int := bigI (L.note.take 8)
def genS : Sx.Spec where
  fn := 30
  own := []
  rd := [0]
  res := [.one (.int .u64)]
  pre := fun xs Hs Rs => ∃ p R dp sl L, xs = [p] ∧ Rs = [R] ∧ LogRd R p dp sl L
  post := fun xs Hs Rs v Hs' F => ∃ p R dp sl L, xs = [p] ∧ Rs = [R] ∧ LogRd R p dp sl L ∧ v = .int .u64 (genI L)
def gnΓ : List Sx.Spec := [sbigS, lnoteS]
theorem gnΓ_ok : ∀ t ∈ gnΓ, t.OK Tryd.prog := fun t ht => by
  simp only [gnΓ, List.mem_cons, List.mem_nil_iff, or_false] at ht
  rcases ht with rfl | rfl
  · exact sbigS_ok
  · exact lnoteS_ok
def genNd : Nd := .and (.pre (.call 1 2 [.sv (.one (.hptr (.var 0) (.lit 0)))] [] [.ro 1 [.var 0] false])) (.ext (.call 1 2 [.sv (.one (.hptr (.var 0) (.lit 0)))] [] [.ro 1 [.var 0] false]) (.ext (.alloc 18) (.and (.pre (.call 0 19 [.sv (.one (.sl (.var 18) (.lit 0) (.lit 8) (.lit 16)))] [] [.blk 18 (ckCVs 2 (List.replicate 16 (Ck.int .u8))) 41])) (.ext (.call 0 19 [.sv (.one (.sl (.var 18) (.lit 0) (.lit 8) (.lit 16)))] [] [.blk 18 (ckCVs 2 (List.replicate 16 (Ck.int .u8))) 41]) (.post [.ro 1 [.var 0] false, .dead] (.sv (.one (.int .u64 (.var 19)))))))))
def genW : Walk Tryd.prog gnΓ genS.fn where
  Λ := noLoops
  args := [TP (.var 0) (.lit 0)]
  mem := [.ro 1 [.var 0] false]
  nv := 2
  nd := genNd
  ok := by kernel_rfl
theorem gng0 : gnΓ[0]? = some sbigS := rfl
theorem gng1 : gnΓ[1]? = some lnoteS := rfl
theorem gnr0 : sbigS.res = [.one (.int .u64)] := rfl
theorem gnr1 : lnoteS.res = [.agg (u8s 16)] := rfl
theorem genS_ok : genS.OK Tryd.prog := by
  refine Spec.of_fn (Γ := gnΓ) gnΓ_ok ?_
  rintro xs Hs Rs hl1 hl2 ⟨p, R, dp, sl, L, rfl, rfl, hL⟩
  have e0 : Hs = [] := List.length_eq_zero_iff.1 hl1
  subst e0
  obtain ⟨a, rfl, hLi⟩ := id hL
  refine ⟨genW, envI [(a : Int)] false [Hl.none, R], fun _ _ => True, fun _ _ => 0, ?_, ⟨?_, ?_, ?_, ?_⟩, (fun _ h => nomatch h), ?_⟩
  · show [Value.pointer (slP (a : Int) 0)] = _
    rw [ptr0]
  · intro r hr ho; simp [genW] at hr; subst hr; cases ho
  · intro r hr ho; simp [genW] at hr; subst hr; exact ⟨R, by simp, Hl.le_refl _⟩
  · simp [genW]
  · intro r hr; simp [genW] at hr; subst hr; trivial
  · show Nd.holds _ _ _ genNd
    generalize hρ : envI [(a : Int)] false [Hl.none, R] = ρ
    have v0 : ρ.i 0 = a := by rw [← hρ]; rfl
    have w1 : ρ.h 1 = R := by rw [← hρ]; rfl
    clear hρ
    unfold genNd
    simp only [Nd.holds, X.pre, X.rel, X.n, Src.ok, Src.len, Src.vals, true_and, and_true, if_true, Nat.mul_one, Nat.add_zero, Nat.reduceAdd, List.length_cons, List.length_nil, bT_tt, bT_ff, bT_bvar, bT_not, bT_and, bT_or, bT_ite, bT_lt, bT_le, bT_eq, bT_beq, bT_seq, bT_hB, bT_his, bT_hby, bT_hism, bT_hks, iev_lit, iev_var, iev_add, iev_sub, iev_mul, iev_wrap, iev_ite, iev_hI, iev_hP, iev_hmlen, sev_ite, sev_slit, sev_sof, sev_svar, TV.ev, SV.ev, CV.ev, List.map_cons, List.map_nil, Res.hl, cpTV, Cp.sv, Ck.cv, cpSVs, Cp.len, Ck.len, newHs_zero, newHs_one, roots_ne, gng0, gng1, gnr0, gnr1]
    rw [v0, w1, ptr0]
    refine ⟨⟨_, R, dp, sl, L, rfl, rfl, hL⟩, fun q1 g1 ⟨F1, ⟨p', R', dp', sl', L', e1, e2, hL', hv⟩, _⟩ q2 g2 p2 => ?_⟩
    simp only [List.cons.injEq, and_true] at e1 e2
    subst e1 e2
    obtain ⟨_, _, rfl⟩ := hL.uniq hL'
    have ec : (ckCVs 2 (List.replicate 16 (Ck.int .u8))).map (CV.ev q1) = bys L.note := List.toArray_inj (Value.agg.inj hv)
    have ec2 : (ckCVs 2 (List.replicate 16 (Ck.int .u8))).map (CV.ev q2) = bys L.note := (CV.agreeL g2 _ (by decide)).trans ec
    have hn16 := hLi.1.note
    have hRd : RdW (Hl.one (q2.i 18).toNat (.cells (bys L.note).toArray 41 (0, 0))) (.slice (slP (q2.i 18) 0) (Int.toNat 8) (Int.toNat 16)) (L.note.take 8) := by
      refine ⟨q2.i 18, 0, 16, ?_, Int.le_refl _, Or.inr ⟨p2, fun j z hj => ?_⟩⟩
      · rw [List.length_take, hn16]; rfl
      · have hj8 : j < 8 := by have := (List.getElem?_eq_some_iff.1 hj).1; rw [List.length_take] at this; omega
        rw [List.getElem?_take_of_lt hj8] at hj
        rw [Hl.one_cell, List.getElem?_toArray, bys_get, Int.toNat_zero, Nat.zero_add, hj]; rfl
    rw [ec2]
    refine ⟨⟨_, _, _, rfl, rfl, hRd, by rw [List.length_take]; omega⟩, fun q3 g3 ⟨F3, ⟨u', bs', R3, e1, e2, hR3, hv3⟩, _⟩ _ => ?_⟩
    simp only [List.cons.injEq, and_true] at e1 e2
    subst e1 e2
    rw [← hRd.uniq hR3] at hv3
    have hv3 : Value.int .u64 (q3.i 19) = .int .u64 (genI L) := hv3
    exact ⟨[], [], rfl, rfl, ⟨⟨fun _ => genI L, fun _ => false, fun _ => .empty, fun _ => .tuple #[], fun _ => Hl.none⟩, hv3, trivial, trivial⟩, _, R, dp, sl, L, rfl, rfl, hL, hv3⟩
end Go.Proofs.YtomdimlnggpgbaaDoor
