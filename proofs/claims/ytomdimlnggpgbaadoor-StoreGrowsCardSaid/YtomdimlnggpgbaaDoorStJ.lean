/- Layer 9: Room, Generation, Records of a store, the reference's Same, as contracts. No condition. -/
import Derived.Test.YtomdimlnggpgbaaDoorStI
set_option linter.unusedSimpArgs false
set_option linter.unusedVariables false
set_option linter.constructorNameAsVariable false
namespace Go.Proofs.YtomdimlnggpgbaaDoor
open Go Go.Sx Go.Pk
open Go.Proofs.YtomdimlnggpgbaaDoor.D hiding envI noLoops numS

theorem ptr_parts {a : Nat} : Value.pointer (slP (valP (some (Value.pointer (some ⟨a, 0, none⟩))) 0) (valP (some (Value.pointer (some ⟨a, 0, none⟩))) 1)) = .pointer (some ⟨a, 0, none⟩) := by
  show Value.pointer (slP ((a : Nat) : Int) 0) = _
  rw [ptr0]
theorem StoreRd.cells {H : Hl} {a : Nat} {dp pa pb sl : Value} {S : SM} (h : StoreRd H a dp pa pb sl S) : H.cell a 0 = some pa ∧ H.cell a 2 = some sl := by
  unfold Hl.cell
  rw [h.blk]
  exact ⟨rfl, rfl⟩
def sroomS : Sx.Spec where
  fn := 14
  own := []
  rd := [0]
  res := [.one (.int .i64)]
  pre := fun xs Hs Rs => ∃ p R dp S, xs = [p] ∧ Rs = [R] ∧ StoreR R p dp S ∧ S.bA.length ≤ 1048576
  post := fun xs Hs Rs v Hs' F => ∃ p R dp S, xs = [p] ∧ Rs = [R] ∧ StoreR R p dp S ∧ v = .int .i64 (S.LA.most - S.bA.length)
def sgenS : Sx.Spec where
  fn := 18
  own := []
  rd := [0]
  res := [.one (.int .u64)]
  pre := fun xs Hs Rs => ∃ p R dp S, xs = [p] ∧ Rs = [R] ∧ StoreR R p dp S
  post := fun xs Hs Rs v Hs' F => ∃ p R dp S, xs = [p] ∧ Rs = [R] ∧ StoreR R p dp S ∧ v = .int .u64 (genI S.LA)
theorem sroom_post {p dp v : Value} {R F : Hl} {K : List Hl} {S : SM} (h : StoreR R p dp S) (hp : sroomS.post [p] [] [R] v K F) : v = .int .i64 (S.LA.most - S.bA.length) := by
  obtain ⟨p', R', dp', S', e1, e2, h', hv⟩ := hp
  simp only [List.cons.injEq, and_true] at e1 e2
  subst e1 e2
  obtain ⟨_, rfl⟩ := h.uniq h'
  exact hv
theorem sgen_post {p dp v : Value} {R F : Hl} {K : List Hl} {S : SM} (h : StoreR R p dp S) (hp : sgenS.post [p] [] [R] v K F) : v = .int .u64 (genI S.LA) := by
  obtain ⟨p', R', dp', S', e1, e2, h', hv⟩ := hp
  simp only [List.cons.injEq, and_true] at e1 e2
  subst e1 e2
  obtain ⟨_, rfl⟩ := h.uniq h'
  exact hv
def srΓ : List Sx.Spec := [roomS]
theorem srΓ_ok : ∀ t ∈ srΓ, t.OK Tryd.prog := fun t ht => by
  simp only [srΓ, List.mem_cons, List.mem_nil_iff, or_false] at ht
  rw [ht]; exact roomS_ok
def sroomNd : Nd := .and (.e (.le (.lit 0) (.var 0))) (.and (.e (.his 1 (.var 0) (.lit 0) 0 .ptr)) (.and (.pre (.call 0 2 [.sv (.one (.hptr (.hP 1 (.var 0) (.lit 0) 0 0) (.hP 1 (.var 0) (.lit 0) 0 1)))] [] [.ro 1 [.var 0] true])) (.ext (.call 0 2 [.sv (.one (.hptr (.hP 1 (.var 0) (.lit 0) 0 0) (.hP 1 (.var 0) (.lit 0) 0 1)))] [] [.ro 1 [.var 0] true]) (.post [.ro 1 [.var 0] true] (.sv (.one (.int .i64 (.var 2))))))))
def sroomW : Walk Tryd.prog srΓ sroomS.fn where
  Λ := noLoops
  args := [TP (.var 0) (.lit 0)]
  mem := [.ro 1 [.var 0] true]
  nv := 2
  nd := sroomNd
  ok := by kernel_rfl
theorem srg0 : srΓ[0]? = some roomS := rfl
theorem sroomS_ok : sroomS.OK Tryd.prog := by
  refine Spec.of_fn (Γ := srΓ) srΓ_ok ?_
  rintro xs Hs Rs hl1 hl2 ⟨p, R, dp, S, rfl, rfl, hS, hb⟩
  have e0 : Hs = [] := List.length_eq_zero_iff.1 hl1
  subst e0
  obtain ⟨a, pa, pb, sl, rfl, hr⟩ := id hS
  obtain ⟨sla, ⟨aa, hpa, _⟩, _⟩ := id hr.la
  have hc := hr.cells.1
  subst hpa
  refine ⟨sroomW, envI [(a : Int)] false [Hl.none, R], fun _ _ => True, fun _ _ => 0, ?_, ⟨?_, ?_, ?_, ?_⟩, (fun _ h => nomatch h), ?_⟩
  · show [Value.pointer (slP (a : Int) 0)] = _; rw [ptr0]
  · intro r hr ho; simp [sroomW] at hr; subst hr; cases ho
  · intro r hr ho; simp [sroomW] at hr; subst hr; exact ⟨R, by simp, Hl.le_refl _⟩
  · simp [sroomW]
  · intro r hr; simp [sroomW] at hr; subst hr; trivial
  · show Nd.holds _ _ _ sroomNd
    generalize hρ : envI [(a : Int)] false [Hl.none, R] = ρ
    have v0 : ρ.i 0 = a := by rw [← hρ]; rfl
    have w1 : ρ.h 1 = R := by rw [← hρ]; rfl
    clear hρ
    have t0 : Int.toNat 0 = 0 := rfl
    unfold sroomNd
    simp only [Nd.holds, X.pre, X.rel, X.n, Src.ok, Src.len, Src.vals, true_and, and_true, if_true, Nat.mul_one, Nat.add_zero, Nat.reduceAdd, List.length_cons, List.length_nil, bT_tt, bT_ff, bT_bvar, bT_not, bT_and, bT_or, bT_ite, bT_lt, bT_le, bT_eq, bT_beq, bT_seq, bT_hB, bT_his, bT_hby, bT_hism, bT_hks, iev_lit, iev_var, iev_add, iev_sub, iev_mul, iev_wrap, iev_ite, iev_hI, iev_hP, iev_hmlen, sev_ite, sev_slit, sev_sof, sev_svar, TV.ev, SV.ev, CV.ev, List.map_cons, List.map_nil, Res.hl, cpTV, Cp.sv, Ck.cv, cpSVs, Cp.len, Ck.len, newHs_zero, newHs_one, roots_ne, srg0, sor0, t0]
    rw [v0, w1, Int.toNat_natCast, hc, ptr_parts]
    refine ⟨by omega, rfl, room_pre hr.la hb, fun q1 g1 ⟨F1, hp1, _⟩ _ => ?_⟩
    have hv := room_of (room_post hr.la hp1)
    refine ⟨[], [], rfl, rfl, ⟨⟨fun _ => q1.i 2, fun _ => false, fun _ => .empty, fun _ => .tuple #[], fun _ => Hl.none⟩, rfl, trivial, trivial⟩, _, R, dp, S, rfl, rfl, hS, ?_⟩
    show Value.int .i64 (q1.i 2) = _
    rw [hv]
def sgΓ : List Sx.Spec := [genS]
theorem sgΓ_ok : ∀ t ∈ sgΓ, t.OK Tryd.prog := fun t ht => by
  simp only [sgΓ, List.mem_cons, List.mem_nil_iff, or_false] at ht
  rw [ht]; exact genS_ok
def sgenNd : Nd := .and (.e (.le (.lit 0) (.var 0))) (.and (.e (.his 1 (.var 0) (.lit 0) 0 .ptr)) (.and (.pre (.call 0 2 [.sv (.one (.hptr (.hP 1 (.var 0) (.lit 0) 0 0) (.hP 1 (.var 0) (.lit 0) 0 1)))] [] [.ro 1 [.var 0] true])) (.ext (.call 0 2 [.sv (.one (.hptr (.hP 1 (.var 0) (.lit 0) 0 0) (.hP 1 (.var 0) (.lit 0) 0 1)))] [] [.ro 1 [.var 0] true]) (.post [.ro 1 [.var 0] true] (.sv (.one (.int .u64 (.var 2))))))))
def sgenW : Walk Tryd.prog sgΓ sgenS.fn where
  Λ := noLoops
  args := [TP (.var 0) (.lit 0)]
  mem := [.ro 1 [.var 0] true]
  nv := 2
  nd := sgenNd
  ok := by kernel_rfl
theorem sgg0 : sgΓ[0]? = some genS := rfl
theorem sgenS_ok : sgenS.OK Tryd.prog := by
  refine Spec.of_fn (Γ := sgΓ) sgΓ_ok ?_
  rintro xs Hs Rs hl1 hl2 ⟨p, R, dp, S, rfl, rfl, hS⟩
  have e0 : Hs = [] := List.length_eq_zero_iff.1 hl1
  subst e0
  obtain ⟨a, pa, pb, sl, rfl, hr⟩ := id hS
  obtain ⟨sla, ⟨aa, hpa, _⟩, _⟩ := id hr.la
  have hc := hr.cells.1
  subst hpa
  refine ⟨sgenW, envI [(a : Int)] false [Hl.none, R], fun _ _ => True, fun _ _ => 0, ?_, ⟨?_, ?_, ?_, ?_⟩, (fun _ h => nomatch h), ?_⟩
  · show [Value.pointer (slP (a : Int) 0)] = _; rw [ptr0]
  · intro r hr ho; simp [sgenW] at hr; subst hr; cases ho
  · intro r hr ho; simp [sgenW] at hr; subst hr; exact ⟨R, by simp, Hl.le_refl _⟩
  · simp [sgenW]
  · intro r hr; simp [sgenW] at hr; subst hr; trivial
  · show Nd.holds _ _ _ sgenNd
    generalize hρ : envI [(a : Int)] false [Hl.none, R] = ρ
    have v0 : ρ.i 0 = a := by rw [← hρ]; rfl
    have w1 : ρ.h 1 = R := by rw [← hρ]; rfl
    clear hρ
    have t0 : Int.toNat 0 = 0 := rfl
    unfold sgenNd
    simp only [Nd.holds, X.pre, X.rel, X.n, Src.ok, Src.len, Src.vals, true_and, and_true, if_true, Nat.mul_one, Nat.add_zero, Nat.reduceAdd, List.length_cons, List.length_nil, bT_tt, bT_ff, bT_bvar, bT_not, bT_and, bT_or, bT_ite, bT_lt, bT_le, bT_eq, bT_beq, bT_seq, bT_hB, bT_his, bT_hby, bT_hism, bT_hks, iev_lit, iev_var, iev_add, iev_sub, iev_mul, iev_wrap, iev_ite, iev_hI, iev_hP, iev_hmlen, sev_ite, sev_slit, sev_sof, sev_svar, TV.ev, SV.ev, CV.ev, List.map_cons, List.map_nil, Res.hl, cpTV, Cp.sv, Ck.cv, cpSVs, Cp.len, Ck.len, newHs_zero, newHs_one, roots_ne, sgg0, sor2, t0]
    rw [v0, w1, Int.toNat_natCast, hc, ptr_parts]
    refine ⟨by omega, rfl, gen_pre hr.la, fun q1 g1 ⟨F1, hp1, _⟩ _ => ?_⟩
    have hv := gen_post hr.la hp1
    exact ⟨[], [], rfl, rfl, ⟨⟨fun _ => q1.i 2, fun _ => false, fun _ => .empty, fun _ => .tuple #[], fun _ => Hl.none⟩, rfl, trivial, trivial⟩, _, R, dp, S, rfl, rfl, hS, hv⟩
/-! ### Records -/
def srecS : Sx.Spec where
  fn := 13
  own := []
  rd := [0]
  res := [.one .sl]
  pre := fun xs Hs Rs => ∃ p R dp S, xs = [p] ∧ Rs = [R] ∧ StoreR R p dp S ∧ S.recs.length ≤ 1000000000 ∧ ∀ r ∈ S.recs, r.length ≤ 1000000
  post := fun xs Hs Rs v Hs' F => ∃ p R dp S, xs = [p] ∧ Rs = [R] ∧ StoreR R p dp S ∧ RowsR F v S.recs
theorem srec_post {p dp v : Value} {R F : Hl} {K : List Hl} {S : SM} (h : StoreR R p dp S) (hp : srecS.post [p] [] [R] v K F) : RowsR F v S.recs := by
  obtain ⟨p', R', dp', S', e1, e2, h', hv⟩ := hp
  simp only [List.cons.injEq, and_true] at e1 e2
  subst e1 e2
  obtain ⟨_, rfl⟩ := h.uniq h'
  exact hv
def scΓ : List Sx.Spec := [cloneSS]
theorem scΓ_ok : ∀ t ∈ scΓ, t.OK Tryd.prog := fun t ht => by
  simp only [scΓ, List.mem_cons, List.mem_nil_iff, or_false] at ht
  rw [ht]; exact cloneSS_ok
def srecNd : Nd := .and (.e (.le (.lit 0) (.var 0))) (.and (.e (.his 1 (.var 0) (.lit 2) 0 .slice)) (.and (.e (.le (.lit 0) (.hP 1 (.var 0) (.lit 2) 0 2))) (.and (.inv 0 [⟨53, 0, .int .i64 (.lit (-1))⟩, ⟨54, 0, .int .i64 (.lit 0)⟩, ⟨55, 0, .int .i64 (.lit 0)⟩, ⟨50, 0, .int .i64 (.lit 0)⟩] [(56, none)]) (.havoc 0 0 2 (.and (.imp (.lt (.var 50) (.hP 1 (.var 0) (.lit 2) 0 2)) (.and (.e (.le (.lit 0) (.hP 1 (.var 0) (.lit 2) 0 0))) (.and (.e (.le (.lit 0) (.hP 1 (.var 0) (.lit 2) 0 1))) (.and (.e (.le (.lit 0) (.var 50))) (.and (.e (.his 1 (.hP 1 (.var 0) (.lit 2) 0 0) (.add (.hP 1 (.var 0) (.lit 2) 0 1) (.var 50)) 0 .slice)) (.and (.pre (.call 0 60 [.sv (.one (.sl (.hP 1 (.hP 1 (.var 0) (.lit 2) 0 0) (.add (.hP 1 (.var 0) (.lit 2) 0 1) (.var 50)) 0 0) (.hP 1 (.hP 1 (.var 0) (.lit 2) 0 0) (.add (.hP 1 (.var 0) (.lit 2) 0 1) (.var 50)) 0 1) (.hP 1 (.hP 1 (.var 0) (.lit 2) 0 0) (.add (.hP 1 (.var 0) (.lit 2) 0 1) (.var 50)) 0 2) (.hP 1 (.hP 1 (.var 0) (.lit 2) 0 0) (.add (.hP 1 (.var 0) (.lit 2) 0 1) (.var 50)) 0 3)))] [] [.ro 1 [.var 0] true])) (.ext (.call 0 60 [.sv (.one (.sl (.hP 1 (.hP 1 (.var 0) (.lit 2) 0 0) (.add (.hP 1 (.var 0) (.lit 2) 0 1) (.var 50)) 0 0) (.hP 1 (.hP 1 (.var 0) (.lit 2) 0 0) (.add (.hP 1 (.var 0) (.lit 2) 0 1) (.var 50)) 0 1) (.hP 1 (.hP 1 (.var 0) (.lit 2) 0 0) (.add (.hP 1 (.var 0) (.lit 2) 0 1) (.var 50)) 0 2) (.hP 1 (.hP 1 (.var 0) (.lit 2) 0 0) (.add (.hP 1 (.var 0) (.lit 2) 0 1) (.var 50)) 0 3)))] [] [.ro 1 [.var 0] true]) (.ext (.alloc 64) (.ext (.mrg 65 (.hp 56 [] [.var 53] []) (.hp 60 [] [.var 60] [])) (.and (.pre (.app 66 30 1 24 (.sl (.var 53) (.lit 0) (.var 54) (.var 55)) (.var 54) (.hp 65 [56, 60] [.var 53, .var 60, .var 60] []) (.cvs [.sl (.var 60) (.var 61) (.var 62) (.var 63)] 1))) (.ext (.app 66 30 1 24 (.sl (.var 53) (.lit 0) (.var 54) (.var 55)) (.var 54) (.hp 65 [56, 60] [.var 53, .var 60, .var 60] []) (.cvs [.sl (.var 60) (.var 61) (.var 62) (.var 63)] 1)) (.back 0 0 [⟨53, 0, .int .i64 (.var 66)⟩, ⟨54, 0, .int .i64 (.add (.var 54) (.lit 1))⟩, ⟨55, 0, .int .i64 (.var 67)⟩, ⟨50, 0, .int .i64 (.wrap .i64 (.add (.var 50) (.lit 1)))⟩] [(56, some 66)])))))))))))) (.imp (.not (.lt (.var 50) (.hP 1 (.var 0) (.lit 2) 0 2))) (.post [.ro 1 [.var 0] true, .hp 56 [] [.var 53] []] (.sv (.one (.sl (.var 53) (.lit 0) (.var 54) (.var 55)))))))))))
def srecW : Walk Tryd.prog scΓ srecS.fn where
  Λ := fun p => if lp0 p then some ⟨0, [(11, TI .i64 (.var 50)), (3, .sv (.one (.sl (.var 53) (.lit 0) (.var 54) (.var 55))))], [(1, .hp 56 [] [.var 53] [])], 60⟩ else none
  args := [TP (.var 0) (.lit 0)]
  mem := [.ro 1 [.var 0] true]
  nv := 2
  nd := srecNd
  ok := by kernel_rfl
theorem scg0 : scΓ[0]? = some cloneSS := rfl
theorem srecS_ok : srecS.OK Tryd.prog := by
  refine Spec.of_fn (Γ := scΓ) scΓ_ok ?_
  rintro xs Hs Rs hl1 hl2 ⟨p, R, dp, S, rfl, rfl, hS, hlen, hrow⟩
  have e0 : Hs = [] := List.length_eq_zero_iff.1 hl1
  subst e0
  obtain ⟨a, pa, pb, sl, rfl, hr⟩ := id hS
  have hc := hr.cells.2
  obtain ⟨rx, rc, hrx, rfl⟩ := hr.rows.rep
  have hat := RowsR.at (l := (S.recs.length : Int)) (c := (rc : Int)) (rows := S.recs) (by rw [Int.toNat_natCast, Int.toNat_natCast]; exact hr.rows) hrx (by omega)
  refine ⟨srecW, envI [(a : Int)] false [Hl.none, R], fun _ q => ∃ k : Nat, q.i 50 = k ∧ k ≤ S.recs.length ∧ -1 ≤ q.i 53 ∧ 0 ≤ q.i 54 ∧ 0 ≤ q.i 55 ∧ RowsR (q.h 56) (.slice (slP (q.i 53) 0) (q.i 54).toNat (q.i 55).toNat) (S.recs.take k), fun _ q => (S.recs.length - q.i 50).toNat, ?_, ⟨?_, ?_, ?_, ?_⟩, (fun _ h => nomatch h), ?_⟩
  · show [Value.pointer (slP (a : Int) 0)] = _; rw [ptr0]
  · intro r hr ho; simp [srecW] at hr; subst hr; cases ho
  · intro r hr ho; simp [srecW] at hr; subst hr; exact ⟨R, by simp, Hl.le_refl _⟩
  · simp [srecW]
  · intro r hr; simp [srecW] at hr; subst hr; trivial
  · show Nd.holds _ _ _ srecNd
    generalize hρ : envI [(a : Int)] false [Hl.none, R] = ρ
    have v0 : ρ.i 0 = a := by rw [← hρ]; rfl
    have w1 : ρ.h 1 = R := by rw [← hρ]; rfl
    clear hρ
    have t2 : Int.toNat 2 = 2 := rfl
    unfold srecNd
    simp only [Nd.holds, X.pre, X.rel, X.n, Src.ok, Src.len, Src.vals, true_and, and_true, if_true, Nat.mul_one, Nat.add_zero, Nat.reduceAdd, List.length_cons, List.length_nil, bT_tt, bT_ff, bT_bvar, bT_not, bT_and, bT_or, bT_ite, bT_lt, bT_le, bT_eq, bT_beq, bT_seq, bT_hB, bT_his, bT_hby, bT_hism, bT_hks, iev_lit, iev_var, iev_add, iev_sub, iev_mul, iev_wrap, iev_ite, iev_hI, iev_hP, iev_hmlen, sev_ite, sev_slit, sev_sof, sev_svar, TV.ev, SV.ev, CV.ev, List.map_cons, List.map_nil, Res.hl, cpTV, Cp.sv, Ck.cv, cpSVs, Cp.len, Ck.len, newHs_zero, newHs_one, roots_ne, scg0, adr7, rsl, t2]
    rw [v0, w1, Int.toNat_natCast, hc, valP_sl2 hrx]
    refine ⟨by omega, rfl, by omega, ⟨0, rfl, Nat.zero_le _, Int.le_refl _, Int.le_refl _, Int.le_refl _, RowsR.nil _⟩, fun q8 g8 ⟨k, ek, hkl, x61, x62, x63, hRk⟩ => ?_⟩
    have h62 : q8.i 54 = k := by
      have := (hRk.at x61 x62).1
      rw [List.length_take] at this
      omega
    rw [g8.i 0 (by omega), g8.h 1 (by omega), v0, w1, ek, Int.toNat_natCast, hc, valP_sl2 hrx]
    refine ⟨fun hlt => ?_, fun hge => ?_⟩
    · have hkr : k < S.recs.length := by omega
      have hrk : S.recs[k]? = some S.recs[k] := List.getElem?_eq_getElem hkr
      obtain ⟨hx0, u, hcu, hRu⟩ := hat.2 k _ hrk
      have hRr := hRu.rd
      have hsl : ∃ a l c, u = Value.slice a l c := (RdW.parts hRr).1
      rw [valP_sl0 hrx, valP_sl1 hx0 (Int.le_refl _)]
      have hck : R.cell rx.toNat (0 + (k : Int)).toNat = some u := by rw [show (0 + (k : Int)).toNat = k by omega]; exact hcu
      rw [hck, sl_parts hsl]
      refine ⟨hx0, Int.le_refl _, by omega, by obtain ⟨_, _, _, e⟩ := hsl; rw [e]; rfl, ⟨_, _, R, rfl, rfl, hRr, hrow _ (List.getElem_mem _)⟩, fun q9 g9 ⟨F9, ⟨u9, bs9, R9, x1, x2, hR9, hO9⟩, hF9, hn9⟩ q10 g10 _ q11 g11 ⟨e11, hd11⟩ => ?_⟩
      simp only [List.cons.injEq, and_true] at x1 x2
      subst x1 x2
      obtain rfl := hRr.uniq hR9
      rw [← hF9 trivial] at hO9
      have hn9 : -1 ≤ q9.i 60 ∧ 0 ≤ q9.i 61 ∧ 0 ≤ q9.i 62 ∧ 0 ≤ q9.i 63 := hn9.1
      have G10 : Agree 60 q8 q10 := g9.trans (g10.mono (by omega))
      have G11 : Agree 60 q8 q11 := G10.trans (g11.mono (by omega))
      have G9 : Agree 64 q9 q11 := g10.trans (g11.mono (by omega))
      have hu9 : RowR (q10.h 60) none (.slice (slP (q11.i 60) (q11.i 61)) (q11.i 62).toNat (q11.i 63).toNat) S.recs[k] := by
        rw [g10.h 60 (by omega), G9.i 60 (by omega), G9.i 61 (by omega), G9.i 62 (by omega), G9.i 63 (by omega)]
        exact RowR.of hO9.rd.w hn9.1 hn9.2.1
      rw [e11, G10.h 56 (by omega), G11.i 53 (by omega), G11.i 54 (by omega), G11.i 55 (by omega)]
      rw [G10.h 56 (by omega)] at hd11
      have hpre : ∃ xs, OwnsH ((q8.h 56).un (q10.h 60)) 30 1 (.slice (slP (q8.i 53) 0) (q8.i 54).toNat (q8.i 55).toNat) (q8.i 54).toNat xs := by
        obtain ⟨us', ho', _⟩ := hRk
        rw [show (q8.i 54).toNat = (S.recs.take k).length by rw [List.length_take]; omega] at ho' ⊢
        exact ⟨us', ho'.mono (Hl.un_left _ _)⟩
      refine ⟨⟨hpre, x62, by unfold maxLen; omega, by omega⟩, fun q12 g12 ⟨a1, a2, happ, hkp, _, hnw⟩ => ?_⟩
      have G12 : Agree 60 q8 q12 := G11.trans (g12.mono (by omega))
      have hrows := rowsR_app hRk x61 x62 hd11 hu9 a1 happ hkp hnw
      have e62 : q12.i 54 + 1 = q8.i 54 + 1 := by rw [G12.i 54 (by omega)]
      have e60 : q12.i 50 = k := by rw [G12.i 50 (by omega), ek]
      have w60 : IntKind.i64.wrap (q12.i 50 + 1) = (k : Int) + 1 := by rw [e60]; exact wrap_i64 (by omega) (by omega)
      refine ⟨⟨k + 1, ?_, by omega, a1, ?_, a2, ?_⟩, ?_⟩
      · show IntKind.i64.wrap (q12.i 50 + 1) = _
        rw [w60]; rfl
      · show 0 ≤ q12.i 54 + 1
        omega
      · show RowsR (q12.h 66) (.slice (slP (q12.i 66) 0) (q12.i 54 + 1).toNat (q12.i 67).toNat) _
        rw [e62, List.take_add_one, hrk, Option.toList_some]; exact hrows
      · show ((S.recs.length : Int) - IntKind.i64.wrap (q12.i 50 + 1)).toNat < _
        rw [w60]; omega
    · have hke : k = S.recs.length := by omega
      subst hke
      rw [List.take_length] at hRk
      intro _
      refine ⟨[], [1], rfl, rfl, ⟨⟨fun j => [q8.i 53, 0, q8.i 54, q8.i 55].getD j 0, fun _ => false, fun _ => .empty, fun _ => .tuple #[], fun _ => Hl.none⟩, rfl, ⟨x61, Int.le_refl _, x62, x63⟩, trivial⟩, _, R, dp, S, rfl, rfl, hS, ?_⟩
      show RowsR (hls [q8.h 56]) _ _
      rw [hls_one]; exact hRk
end Go.Proofs.YtomdimlnggpgbaaDoor
