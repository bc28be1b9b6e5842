/- Layer 9: Room, Generation, Records of a store, the reference's Same, as contracts. No condition. -/
import Derived.Test.YtomdimlnggpgbaaDoorRows
import Derived.ProofKit
import Derived.LaidMore
import Derived.LaidHandle
import Derived.OpenShut
import Derived.Stop.Joined
import Derived.Stop.LaidErr
import Derived.Deep.Slices
import Derived.ChangeSame
import Derived.Test.YtomdimlnggpgbaaDoorQe
set_option linter.unusedSimpArgs false
set_option linter.unusedVariables false
set_option linter.constructorNameAsVariable false
namespace Go.Proofs.YtomdimlnggpgbaaDoor
open Go Go.Sx Go.Pk
open Go.Proofs.YtomdimlnggpgbaaDoor.D hiding envI noLoops numS
theorem ptr_parts {a : Nat} : Value.pointer (slP (valP (some (Value.pointer (some ⟨a, 0, none⟩))) 0) (valP (some (Value.pointer (some ⟨a, 0, none⟩))) 1)) = .pointer (some ⟨a, 0, none⟩) := by
  show Value.pointer (slP ((a : Nat) : Int) 0) = _
  rw [ptr0]
theorem StoreRd.cells {H : Hl} {a : Nat} {dp pa pb sl : Value} {S : SM} (h : StoreRd H a dp pa pb sl S) : H.cell a 0 = some pa ∧ H.cell a 2 = some sl := by
  unfold Hl.cell
  rw [h.blk]
  exact ⟨rfl, rfl⟩
def sroomS : Sx.Spec where
  fn := 14
  own := []
  rd := [0]
  res := [.one (.int .i64)]
  pre := fun xs Hs Rs => ∃ p R dp S, xs = [p] ∧ Rs = [R] ∧ StoreR R p dp S ∧ S.bA.length ≤ 1048576
  post := fun xs Hs Rs v Hs' F => ∃ p R dp S, xs = [p] ∧ Rs = [R] ∧ StoreR R p dp S ∧ v = .int .i64 (S.LA.most - S.bA.length)
def sgenS : Sx.Spec where
  fn := 18
  own := []
  rd := [0]
  res := [.one (.int .u64)]
  pre := fun xs Hs Rs => ∃ p R dp S, xs = [p] ∧ Rs = [R] ∧ StoreR R p dp S
  post := fun xs Hs Rs v Hs' F => ∃ p R dp S, xs = [p] ∧ Rs = [R] ∧ StoreR R p dp S ∧ v = .int .u64 (genI S.LA)
theorem sroom_post {p dp v : Value} {R F : Hl} {K : List Hl} {S : SM} (h : StoreR R p dp S) (hp : sroomS.post [p] [] [R] v K F) : v = .int .i64 (S.LA.most - S.bA.length) := by
  obtain ⟨p', R', dp', S', e1, e2, h', hv⟩ := hp
  simp only [List.cons.injEq, and_true] at e1 e2
  subst e1 e2
  obtain ⟨_, rfl⟩ := h.uniq h'
  exact hv
theorem sgen_post {p dp v : Value} {R F : Hl} {K : List Hl} {S : SM} (h : StoreR R p dp S) (hp : sgenS.post [p] [] [R] v K F) : v = .int .u64 (genI S.LA) := by
  obtain ⟨p', R', dp', S', e1, e2, h', hv⟩ := hp
  simp only [List.cons.injEq, and_true] at e1 e2
  subst e1 e2
  obtain ⟨_, rfl⟩ := h.uniq h'
  exact hv
def srΓ : List Sx.Spec := [roomS]
theorem srΓ_ok : ∀ t ∈ srΓ, t.OK Tryd.prog := fun t ht => by
  simp only [srΓ, List.mem_cons, List.mem_nil_iff, or_false] at ht
  rw [ht]; exact roomS_ok
def sroomNd : Nd := .and (.e (.le (.lit 0) (.var 0))) (.and (.e (.his 1 (.var 0) (.lit 0) 0 .ptr)) (.and (.pre (.call 0 2 [.sv (.one (.hptr (.hP 1 (.var 0) (.lit 0) 0 0) (.hP 1 (.var 0) (.lit 0) 0 1)))] [] [.ro 1 [.var 0] true])) (.ext (.call 0 2 [.sv (.one (.hptr (.hP 1 (.var 0) (.lit 0) 0 0) (.hP 1 (.var 0) (.lit 0) 0 1)))] [] [.ro 1 [.var 0] true]) (.post [.ro 1 [.var 0] true] (.sv (.one (.int .i64 (.var 2))))))))
def sroomW : Walk Tryd.prog srΓ sroomS.fn where
  Λ := noLoops
  args := [TP (.var 0) (.lit 0)]
  mem := [.ro 1 [.var 0] true]
  nv := 2
  nd := sroomNd
  ok := by kernel_rfl
theorem srg0 : srΓ[0]? = some roomS := rfl
theorem sroomS_ok : sroomS.OK Tryd.prog := by
  refine Spec.of_fn (Γ := srΓ) srΓ_ok ?_
  rintro xs Hs Rs hl1 hl2 ⟨p, R, dp, S, rfl, rfl, hS, hb⟩
  have e0 : Hs = [] := List.length_eq_zero_iff.1 hl1
  subst e0
  obtain ⟨a, pa, pb, sl, rfl, hr⟩ := id hS
  obtain ⟨sla, ⟨aa, hpa, _⟩, _⟩ := id hr.la
  have hc := hr.cells.1
  subst hpa
  refine ⟨sroomW, envI [(a : Int)] false [Hl.none, R], fun _ _ => True, fun _ _ => 0, ?_, ⟨?_, ?_, ?_, ?_⟩, (fun _ h => nomatch h), ?_⟩
  · show [Value.pointer (slP (a : Int) 0)] = _; rw [ptr0]
  · intro r hr ho; simp [sroomW] at hr; subst hr; cases ho
  · intro r hr ho; simp [sroomW] at hr; subst hr; exact ⟨R, by simp, Hl.le_refl _⟩
  · simp [sroomW]
  · intro r hr; simp [sroomW] at hr; subst hr; trivial
  · show Nd.holds _ _ _ sroomNd
    generalize hρ : envI [(a : Int)] false [Hl.none, R] = ρ
    have v0 : ρ.i 0 = a := by rw [← hρ]; rfl
    have w1 : ρ.h 1 = R := by rw [← hρ]; rfl
    clear hρ
    have t0 : Int.toNat 0 = 0 := rfl
    unfold sroomNd
    simp only [Nd.holds, X.pre, X.rel, X.n, Src.ok, Src.len, Src.vals, true_and, and_true, if_true, Nat.mul_one, Nat.add_zero, Nat.reduceAdd, List.length_cons, List.length_nil, bT_tt, bT_ff, bT_bvar, bT_not, bT_and, bT_or, bT_ite, bT_lt, bT_le, bT_eq, bT_beq, bT_seq, bT_hB, bT_his, bT_hby, bT_hism, bT_hks, iev_lit, iev_var, iev_add, iev_sub, iev_mul, iev_wrap, iev_ite, iev_hI, iev_hP, iev_hmlen, sev_ite, sev_slit, sev_sof, sev_svar, TV.ev, SV.ev, CV.ev, List.map_cons, List.map_nil, Res.hl, cpTV, Cp.sv, Ck.cv, cpSVs, Cp.len, Ck.len, newHs_zero, newHs_one, roots_ne, srg0, sor0, t0]
    rw [v0, w1, Int.toNat_natCast, hc, ptr_parts]
    refine ⟨by omega, rfl, room_pre hr.la hb, fun q1 g1 ⟨F1, hp1, _⟩ _ => ?_⟩
    have hv := room_of (room_post hr.la hp1)
    refine ⟨[], [], rfl, rfl, ⟨⟨fun _ => q1.i 2, fun _ => false, fun _ => .empty, fun _ => .tuple #[], fun _ => Hl.none⟩, rfl, trivial, trivial⟩, _, R, dp, S, rfl, rfl, hS, ?_⟩
    show Value.int .i64 (q1.i 2) = _
    rw [hv]
def sgΓ : List Sx.Spec := [genS]
theorem sgΓ_ok : ∀ t ∈ sgΓ, t.OK Tryd.prog := fun t ht => by
  simp only [sgΓ, List.mem_cons, List.mem_nil_iff, or_false] at ht
  rw [ht]; exact genS_ok
def sgenNd : Nd := .and (.e (.le (.lit 0) (.var 0))) (.and (.e (.his 1 (.var 0) (.lit 0) 0 .ptr)) (.and (.pre (.call 0 2 [.sv (.one (.hptr (.hP 1 (.var 0) (.lit 0) 0 0) (.hP 1 (.var 0) (.lit 0) 0 1)))] [] [.ro 1 [.var 0] true])) (.ext (.call 0 2 [.sv (.one (.hptr (.hP 1 (.var 0) (.lit 0) 0 0) (.hP 1 (.var 0) (.lit 0) 0 1)))] [] [.ro 1 [.var 0] true]) (.post [.ro 1 [.var 0] true] (.sv (.one (.int .u64 (.var 2))))))))
def sgenW : Walk Tryd.prog sgΓ sgenS.fn where
  Λ := noLoops
  args := [TP (.var 0) (.lit 0)]
  mem := [.ro 1 [.var 0] true]
  nv := 2
  nd := sgenNd
  ok := by kernel_rfl
theorem sgg0 : sgΓ[0]? = some genS := rfl
theorem sgenS_ok : sgenS.OK Tryd.prog := by
  refine Spec.of_fn (Γ := sgΓ) sgΓ_ok ?_
  rintro xs Hs Rs hl1 hl2 ⟨p, R, dp, S, rfl, rfl, hS⟩
  have e0 : Hs = [] := List.length_eq_zero_iff.1 hl1
  subst e0
  obtain ⟨a, pa, pb, sl, rfl, hr⟩ := id hS
  obtain ⟨sla, ⟨aa, hpa, _⟩, _⟩ := id hr.la
  have hc := hr.cells.1
  subst hpa
  refine ⟨sgenW, envI [(a : Int)] false [Hl.none, R], fun _ _ => True, fun _ _ => 0, ?_, ⟨?_, ?_, ?_, ?_⟩, (fun _ h => nomatch h), ?_⟩
  · show [Value.pointer (slP (a : Int) 0)] = _; rw [ptr0]
  · intro r hr ho; simp [sgenW] at hr; subst hr; cases ho
  · intro r hr ho; simp [sgenW] at hr; subst hr; exact ⟨R, by simp, Hl.le_refl _⟩
  · simp [sgenW]
  · intro r hr; simp [sgenW] at hr; subst hr; trivial
  · show Nd.holds _ _ _ sgenNd
    generalize hρ : envI [(a : Int)] false [Hl.none, R] = ρ
    have v0 : ρ.i 0 = a := by rw [← hρ]; rfl
    have w1 : ρ.h 1 = R := by rw [← hρ]; rfl
    clear hρ
    have t0 : Int.toNat 0 = 0 := rfl
    unfold sgenNd
    simp only [Nd.holds, X.pre, X.rel, X.n, Src.ok, Src.len, Src.vals, true_and, and_true, if_true, Nat.mul_one, Nat.add_zero, Nat.reduceAdd, List.length_cons, List.length_nil, bT_tt, bT_ff, bT_bvar, bT_not, bT_and, bT_or, bT_ite, bT_lt, bT_le, bT_eq, bT_beq, bT_seq, bT_hB, bT_his, bT_hby, bT_hism, bT_hks, iev_lit, iev_var, iev_add, iev_sub, iev_mul, iev_wrap, iev_ite, iev_hI, iev_hP, iev_hmlen, sev_ite, sev_slit, sev_sof, sev_svar, TV.ev, SV.ev, CV.ev, List.map_cons, List.map_nil, Res.hl, cpTV, Cp.sv, Ck.cv, cpSVs, Cp.len, Ck.len, newHs_zero, newHs_one, roots_ne, sgg0, sor2, t0]
    rw [v0, w1, Int.toNat_natCast, hc, ptr_parts]
    refine ⟨by omega, rfl, gen_pre hr.la, fun q1 g1 ⟨F1, hp1, _⟩ _ => ?_⟩
    have hv := gen_post hr.la hp1
    exact ⟨[], [], rfl, rfl, ⟨⟨fun _ => q1.i 2, fun _ => false, fun _ => .empty, fun _ => .tuple #[], fun _ => Hl.none⟩, rfl, trivial, trivial⟩, _, R, dp, S, rfl, rfl, hS, hv⟩
def srecS : Sx.Spec where
  fn := 13
  own := []
  rd := [0]
  res := [.one .sl]
  pre := fun xs Hs Rs => ∃ p R dp S, xs = [p] ∧ Rs = [R] ∧ StoreR R p dp S ∧ S.recs.length ≤ 1000000000 ∧ ∀ r ∈ S.recs, r.length ≤ 1000000
  post := fun xs Hs Rs v Hs' F => ∃ p R dp S, xs = [p] ∧ Rs = [R] ∧ StoreR R p dp S ∧ RowsR F v S.recs
theorem srec_post {p dp v : Value} {R F : Hl} {K : List Hl} {S : SM} (h : StoreR R p dp S) (hp : srecS.post [p] [] [R] v K F) : RowsR F v S.recs := by
  obtain ⟨p', R', dp', S', e1, e2, h', hv⟩ := hp
  simp only [List.cons.injEq, and_true] at e1 e2
  subst e1 e2
  obtain ⟨_, rfl⟩ := h.uniq h'
  exact hv
def scΓ : List Sx.Spec := [cloneSS]
theorem scΓ_ok : ∀ t ∈ scΓ, t.OK Tryd.prog := fun t ht => by
  simp only [scΓ, List.mem_cons, List.mem_nil_iff, or_false] at ht
  rw [ht]; exact cloneSS_ok
def srecNd : Nd := .and (.e (.le (.lit 0) (.var 0))) (.and (.e (.his 1 (.var 0) (.lit 2) 0 .slice)) (.and (.e (.le (.lit 0) (.hP 1 (.var 0) (.lit 2) 0 2))) (.and (.inv 0 [⟨53, 0, .int .i64 (.lit (-1))⟩, ⟨54, 0, .int .i64 (.lit 0)⟩, ⟨55, 0, .int .i64 (.lit 0)⟩, ⟨50, 0, .int .i64 (.lit 0)⟩] [(56, none)]) (.havoc 0 0 2 (.and (.imp (.lt (.var 50) (.hP 1 (.var 0) (.lit 2) 0 2)) (.and (.e (.le (.lit 0) (.hP 1 (.var 0) (.lit 2) 0 0))) (.and (.e (.le (.lit 0) (.hP 1 (.var 0) (.lit 2) 0 1))) (.and (.e (.le (.lit 0) (.var 50))) (.and (.e (.his 1 (.hP 1 (.var 0) (.lit 2) 0 0) (.add (.hP 1 (.var 0) (.lit 2) 0 1) (.var 50)) 0 .slice)) (.and (.pre (.call 0 60 [.sv (.one (.sl (.hP 1 (.hP 1 (.var 0) (.lit 2) 0 0) (.add (.hP 1 (.var 0) (.lit 2) 0 1) (.var 50)) 0 0) (.hP 1 (.hP 1 (.var 0) (.lit 2) 0 0) (.add (.hP 1 (.var 0) (.lit 2) 0 1) (.var 50)) 0 1) (.hP 1 (.hP 1 (.var 0) (.lit 2) 0 0) (.add (.hP 1 (.var 0) (.lit 2) 0 1) (.var 50)) 0 2) (.hP 1 (.hP 1 (.var 0) (.lit 2) 0 0) (.add (.hP 1 (.var 0) (.lit 2) 0 1) (.var 50)) 0 3)))] [] [.ro 1 [.var 0] true])) (.ext (.call 0 60 [.sv (.one (.sl (.hP 1 (.hP 1 (.var 0) (.lit 2) 0 0) (.add (.hP 1 (.var 0) (.lit 2) 0 1) (.var 50)) 0 0) (.hP 1 (.hP 1 (.var 0) (.lit 2) 0 0) (.add (.hP 1 (.var 0) (.lit 2) 0 1) (.var 50)) 0 1) (.hP 1 (.hP 1 (.var 0) (.lit 2) 0 0) (.add (.hP 1 (.var 0) (.lit 2) 0 1) (.var 50)) 0 2) (.hP 1 (.hP 1 (.var 0) (.lit 2) 0 0) (.add (.hP 1 (.var 0) (.lit 2) 0 1) (.var 50)) 0 3)))] [] [.ro 1 [.var 0] true]) (.ext (.alloc 64) (.ext (.mrg 65 (.hp 56 [] [.var 53] []) (.hp 60 [] [.var 60] [])) (.and (.pre (.app 66 30 1 24 (.sl (.var 53) (.lit 0) (.var 54) (.var 55)) (.var 54) (.hp 65 [56, 60] [.var 53, .var 60, .var 60] []) (.cvs [.sl (.var 60) (.var 61) (.var 62) (.var 63)] 1))) (.ext (.app 66 30 1 24 (.sl (.var 53) (.lit 0) (.var 54) (.var 55)) (.var 54) (.hp 65 [56, 60] [.var 53, .var 60, .var 60] []) (.cvs [.sl (.var 60) (.var 61) (.var 62) (.var 63)] 1)) (.back 0 0 [⟨53, 0, .int .i64 (.var 66)⟩, ⟨54, 0, .int .i64 (.add (.var 54) (.lit 1))⟩, ⟨55, 0, .int .i64 (.var 67)⟩, ⟨50, 0, .int .i64 (.wrap .i64 (.add (.var 50) (.lit 1)))⟩] [(56, some 66)])))))))))))) (.imp (.not (.lt (.var 50) (.hP 1 (.var 0) (.lit 2) 0 2))) (.post [.ro 1 [.var 0] true, .hp 56 [] [.var 53] []] (.sv (.one (.sl (.var 53) (.lit 0) (.var 54) (.var 55)))))))))))
def srecW : Walk Tryd.prog scΓ srecS.fn where
  Λ := fun p => if lp0 p then some ⟨0, [(11, TI .i64 (.var 50)), (3, .sv (.one (.sl (.var 53) (.lit 0) (.var 54) (.var 55))))], [(1, .hp 56 [] [.var 53] [])], 60⟩ else none
  args := [TP (.var 0) (.lit 0)]
  mem := [.ro 1 [.var 0] true]
  nv := 2
  nd := srecNd
  ok := by kernel_rfl
theorem scg0 : scΓ[0]? = some cloneSS := rfl
theorem srecS_ok : srecS.OK Tryd.prog := by
  refine Spec.of_fn (Γ := scΓ) scΓ_ok ?_
  rintro xs Hs Rs hl1 hl2 ⟨p, R, dp, S, rfl, rfl, hS, hlen, hrow⟩
  have e0 : Hs = [] := List.length_eq_zero_iff.1 hl1
  subst e0
  obtain ⟨a, pa, pb, sl, rfl, hr⟩ := id hS
  have hc := hr.cells.2
  obtain ⟨rx, rc, hrx, rfl⟩ := hr.rows.rep
  have hat := RowsR.at (l := (S.recs.length : Int)) (c := (rc : Int)) (rows := S.recs) (by rw [Int.toNat_natCast, Int.toNat_natCast]; exact hr.rows) hrx (by omega)
  refine ⟨srecW, envI [(a : Int)] false [Hl.none, R], fun _ q => ∃ k : Nat, q.i 50 = k ∧ k ≤ S.recs.length ∧ -1 ≤ q.i 53 ∧ 0 ≤ q.i 54 ∧ 0 ≤ q.i 55 ∧ RowsR (q.h 56) (.slice (slP (q.i 53) 0) (q.i 54).toNat (q.i 55).toNat) (S.recs.take k), fun _ q => (S.recs.length - q.i 50).toNat, ?_, ⟨?_, ?_, ?_, ?_⟩, (fun _ h => nomatch h), ?_⟩
  · show [Value.pointer (slP (a : Int) 0)] = _; rw [ptr0]
  · intro r hr ho; simp [srecW] at hr; subst hr; cases ho
  · intro r hr ho; simp [srecW] at hr; subst hr; exact ⟨R, by simp, Hl.le_refl _⟩
  · simp [srecW]
  · intro r hr; simp [srecW] at hr; subst hr; trivial
  · show Nd.holds _ _ _ srecNd
    generalize hρ : envI [(a : Int)] false [Hl.none, R] = ρ
    have v0 : ρ.i 0 = a := by rw [← hρ]; rfl
    have w1 : ρ.h 1 = R := by rw [← hρ]; rfl
    clear hρ
    have t2 : Int.toNat 2 = 2 := rfl
    unfold srecNd
    simp only [Nd.holds, X.pre, X.rel, X.n, Src.ok, Src.len, Src.vals, true_and, and_true, if_true, Nat.mul_one, Nat.add_zero, Nat.reduceAdd, List.length_cons, List.length_nil, bT_tt, bT_ff, bT_bvar, bT_not, bT_and, bT_or, bT_ite, bT_lt, bT_le, bT_eq, bT_beq, bT_seq, bT_hB, bT_his, bT_hby, bT_hism, bT_hks, iev_lit, iev_var, iev_add, iev_sub, iev_mul, iev_wrap, iev_ite, iev_hI, iev_hP, iev_hmlen, sev_ite, sev_slit, sev_sof, sev_svar, TV.ev, SV.ev, CV.ev, List.map_cons, List.map_nil, Res.hl, cpTV, Cp.sv, Ck.cv, cpSVs, Cp.len, Ck.len, newHs_zero, newHs_one, roots_ne, scg0, adr7, rsl, t2]
    rw [v0, w1, Int.toNat_natCast, hc, valP_sl2 hrx]
    refine ⟨by omega, rfl, by omega, ⟨0, rfl, Nat.zero_le _, Int.le_refl _, Int.le_refl _, Int.le_refl _, RowsR.nil _⟩, fun q8 g8 ⟨k, ek, hkl, x61, x62, x63, hRk⟩ => ?_⟩
    have h62 : q8.i 54 = k := by
      have := (hRk.at x61 x62).1
      rw [List.length_take] at this
      omega
    rw [g8.i 0 (by omega), g8.h 1 (by omega), v0, w1, ek, Int.toNat_natCast, hc, valP_sl2 hrx]
    refine ⟨fun hlt => ?_, fun hge => ?_⟩
    · have hkr : k < S.recs.length := by omega
      have hrk : S.recs[k]? = some S.recs[k] := List.getElem?_eq_getElem hkr
      obtain ⟨hx0, u, hcu, hRu⟩ := hat.2 k _ hrk
      have hRr := hRu.rd
      have hsl : ∃ a l c, u = Value.slice a l c := (RdW.parts hRr).1
      rw [valP_sl0 hrx, valP_sl1 hx0 (Int.le_refl _)]
      have hck : R.cell rx.toNat (0 + (k : Int)).toNat = some u := by rw [show (0 + (k : Int)).toNat = k by omega]; exact hcu
      rw [hck, sl_parts hsl]
      refine ⟨hx0, Int.le_refl _, by omega, by obtain ⟨_, _, _, e⟩ := hsl; rw [e]; rfl, ⟨_, _, R, rfl, rfl, hRr, hrow _ (List.getElem_mem _)⟩, fun q9 g9 ⟨F9, ⟨u9, bs9, R9, x1, x2, hR9, hO9⟩, hF9, hn9⟩ q10 g10 _ q11 g11 ⟨e11, hd11⟩ => ?_⟩
      simp only [List.cons.injEq, and_true] at x1 x2
      subst x1 x2
      obtain rfl := hRr.uniq hR9
      rw [← hF9 trivial] at hO9
      have hn9 : -1 ≤ q9.i 60 ∧ 0 ≤ q9.i 61 ∧ 0 ≤ q9.i 62 ∧ 0 ≤ q9.i 63 := hn9.1
      have G10 : Agree 60 q8 q10 := g9.trans (g10.mono (by omega))
      have G11 : Agree 60 q8 q11 := G10.trans (g11.mono (by omega))
      have G9 : Agree 64 q9 q11 := g10.trans (g11.mono (by omega))
      have hu9 : RowR (q10.h 60) none (.slice (slP (q11.i 60) (q11.i 61)) (q11.i 62).toNat (q11.i 63).toNat) S.recs[k] := by
        rw [g10.h 60 (by omega), G9.i 60 (by omega), G9.i 61 (by omega), G9.i 62 (by omega), G9.i 63 (by omega)]
        exact RowR.of hO9.rd.w hn9.1 hn9.2.1
      rw [e11, G10.h 56 (by omega), G11.i 53 (by omega), G11.i 54 (by omega), G11.i 55 (by omega)]
      rw [G10.h 56 (by omega)] at hd11
      have hpre : ∃ xs, OwnsH ((q8.h 56).un (q10.h 60)) 30 1 (.slice (slP (q8.i 53) 0) (q8.i 54).toNat (q8.i 55).toNat) (q8.i 54).toNat xs := by
        obtain ⟨us', ho', _⟩ := hRk
        rw [show (q8.i 54).toNat = (S.recs.take k).length by rw [List.length_take]; omega] at ho' ⊢
        exact ⟨us', ho'.mono (Hl.un_left _ _)⟩
      refine ⟨⟨hpre, x62, by unfold maxLen; omega, by omega⟩, fun q12 g12 ⟨a1, a2, happ, hkp, _, hnw⟩ => ?_⟩
      have G12 : Agree 60 q8 q12 := G11.trans (g12.mono (by omega))
      have hrows := rowsR_app hRk x61 x62 hd11 hu9 a1 happ hkp hnw
      have e62 : q12.i 54 + 1 = q8.i 54 + 1 := by rw [G12.i 54 (by omega)]
      have e60 : q12.i 50 = k := by rw [G12.i 50 (by omega), ek]
      have w60 : IntKind.i64.wrap (q12.i 50 + 1) = (k : Int) + 1 := by rw [e60]; exact wrap_i64 (by omega) (by omega)
      refine ⟨⟨k + 1, ?_, by omega, a1, ?_, a2, ?_⟩, ?_⟩
      · show IntKind.i64.wrap (q12.i 50 + 1) = _
        rw [w60]; rfl
      · show 0 ≤ q12.i 54 + 1
        omega
      · show RowsR (q12.h 66) (.slice (slP (q12.i 66) 0) (q12.i 54 + 1).toNat (q12.i 67).toNat) _
        rw [e62, List.take_add_one, hrk, Option.toList_some]; exact hrows
      · show ((S.recs.length : Int) - IntKind.i64.wrap (q12.i 50 + 1)).toNat < _
        rw [w60]; omega
    · have hke : k = S.recs.length := by omega
      subst hke
      rw [List.take_length] at hRk
      intro _
      refine ⟨[], [1], rfl, rfl, ⟨⟨fun j => [q8.i 53, 0, q8.i 54, q8.i 55].getD j 0, fun _ => false, fun _ => .empty, fun _ => .tuple #[], fun _ => Hl.none⟩, rfl, ⟨x61, Int.le_refl _, x62, x63⟩, trivial⟩, _, R, dp, S, rfl, rfl, hS, ?_⟩
      show RowsR (hls [q8.h 56]) _ _
      rw [hls_one]; exact hRk
end Go.Proofs.YtomdimlnggpgbaaDoor
namespace Go.Proofs.YtomdimlnggpgbaaDoor
open Go Go.Sx Go.Pk
open Go.Proofs.YtomdimlnggpgbaaDoor.D hiding envI noLoops numS
theorem RowsR.b {F : Hl} {v : Value} {rows : List (List Int)} (h : RowsR F v rows) : RowsB F F v rows := by
  obtain ⟨rx, rc, hrx, rfl⟩ := h.rep
  obtain ⟨us, ho, hr⟩ := id h
  have hul := RowsR.len ho
  refine ⟨us, rx, 0, rc, by rw [hul], Int.le_refl _, hul, fun j u hu => ?_, fun j u r hu hrr => (hr j u r hu hrr).rd⟩
  have hj : j < rows.length := by have := (List.getElem?_eq_some_iff.1 hu).1; omega
  have := OwnsH.cellAt (l := (rows.length : Int)) (c := (rc : Int)) (by rw [Int.toNat_natCast, Int.toNat_natCast]; exact ho) hrx hj
  exact ⟨this.1, by rw [Int.toNat_zero, Nat.zero_add, this.2, hu]⟩
def rsameS : Sx.Spec where
  fn := 12
  own := []
  rd := [0, 1]
  res := [.one .bool]
  pre := fun xs Hs Rs => ∃ a b R1 R2 ra rb, xs = [a, b] ∧ Rs = [R1, R2] ∧ RowsB R1 R1 a ra ∧ RowsB R2 R2 b rb ∧ ra.length ≤ 1000000000
  post := fun xs Hs Rs v Hs' F => ∃ a b R1 R2 ra rb z, xs = [a, b] ∧ Rs = [R1, R2] ∧ RowsB R1 R1 a ra ∧ RowsB R2 R2 b rb ∧ v = .bool z ∧ (ra = rb → z = true)
def rsameNd : Nd := .and (.e (.le (.lit 0) (.var 2))) (.and (.e (.le (.lit 0) (.var 6))) (.and (.imp (.not (.eq (.var 2) (.var 6))) (.post [.ro 8 [.var 0] true, .ro 9 [.var 4] true] (.sv (.one (.bool .ff))))) (.imp (.eq (.var 2) (.var 6)) (.and (.inv 0 [⟨50, 0, .int .i64 (.lit 0)⟩] []) (.havoc 0 0 10 (.and (.imp (.lt (.var 50) (.var 2)) (.and (.e (.le (.lit 0) (.var 0))) (.and (.e (.le (.lit 0) (.var 1))) (.and (.e (.le (.lit 0) (.var 50))) (.and (.e (.his 8 (.var 0) (.add (.var 1) (.var 50)) 0 .slice)) (.and (.e (.or (.eq (.hP 8 (.var 0) (.add (.var 1) (.var 50)) 0 0) (.lit (-1))) (.or (.eq (.hP 8 (.var 0) (.add (.var 1) (.var 50)) 0 2) (.lit 0)) (.and (.le (.lit 0) (.hP 8 (.var 0) (.add (.var 1) (.var 50)) 0 0)) (.and (.le (.lit 0) (.hP 8 (.var 0) (.add (.var 1) (.var 50)) 0 1)) (.hby 8 (.hP 8 (.var 0) (.add (.var 1) (.var 50)) 0 0) (.hP 8 (.var 0) (.add (.var 1) (.var 50)) 0 1) (.hP 8 (.var 0) (.add (.var 1) (.var 50)) 0 2))))))) (.and (.e (.le (.lit 0) (.var 4))) (.and (.e (.le (.lit 0) (.var 5))) (.and (.e (.lt (.var 50) (.var 6))) (.and (.e (.his 9 (.var 4) (.add (.var 5) (.var 50)) 0 .slice)) (.and (.e (.or (.eq (.hP 9 (.var 4) (.add (.var 5) (.var 50)) 0 0) (.lit (-1))) (.or (.eq (.hP 9 (.var 4) (.add (.var 5) (.var 50)) 0 2) (.lit 0)) (.and (.le (.lit 0) (.hP 9 (.var 4) (.add (.var 5) (.var 50)) 0 0)) (.and (.le (.lit 0) (.hP 9 (.var 4) (.add (.var 5) (.var 50)) 0 1)) (.hby 9 (.hP 9 (.var 4) (.add (.var 5) (.var 50)) 0 0) (.hP 9 (.var 4) (.add (.var 5) (.var 50)) 0 1) (.hP 9 (.var 4) (.add (.var 5) (.var 50)) 0 2))))))) (.and (.imp (.not (.seq (.ite (.eq (.hP 8 (.var 0) (.add (.var 1) (.var 50)) 0 0) (.lit (-1))) (.slit ⟨#[]⟩) (.sof 8 (.hP 8 (.var 0) (.add (.var 1) (.var 50)) 0 0) (.hP 8 (.var 0) (.add (.var 1) (.var 50)) 0 1) (.hP 8 (.var 0) (.add (.var 1) (.var 50)) 0 2))) (.ite (.eq (.hP 9 (.var 4) (.add (.var 5) (.var 50)) 0 0) (.lit (-1))) (.slit ⟨#[]⟩) (.sof 9 (.hP 9 (.var 4) (.add (.var 5) (.var 50)) 0 0) (.hP 9 (.var 4) (.add (.var 5) (.var 50)) 0 1) (.hP 9 (.var 4) (.add (.var 5) (.var 50)) 0 2))))) (.post [.ro 8 [.var 0] true, .ro 9 [.var 4] true] (.sv (.one (.bool .ff))))) (.imp (.seq (.ite (.eq (.hP 8 (.var 0) (.add (.var 1) (.var 50)) 0 0) (.lit (-1))) (.slit ⟨#[]⟩) (.sof 8 (.hP 8 (.var 0) (.add (.var 1) (.var 50)) 0 0) (.hP 8 (.var 0) (.add (.var 1) (.var 50)) 0 1) (.hP 8 (.var 0) (.add (.var 1) (.var 50)) 0 2))) (.ite (.eq (.hP 9 (.var 4) (.add (.var 5) (.var 50)) 0 0) (.lit (-1))) (.slit ⟨#[]⟩) (.sof 9 (.hP 9 (.var 4) (.add (.var 5) (.var 50)) 0 0) (.hP 9 (.var 4) (.add (.var 5) (.var 50)) 0 1) (.hP 9 (.var 4) (.add (.var 5) (.var 50)) 0 2)))) (.back 0 0 [⟨50, 0, .int .i64 (.wrap .i64 (.add (.var 50) (.lit 1)))⟩] [])))))))))))))) (.imp (.not (.lt (.var 50) (.var 2))) (.post [.ro 8 [.var 0] true, .ro 9 [.var 4] true] (.sv (.one (.bool .tt)))))))))))
def rsameW : Walk Tryd.prog [] rsameS.fn where
  Λ := fun p => if lp0 p then some ⟨0, [(5, TI .i64 (.var 50))], [], 60⟩ else none
  args := [.sv (.one (.sl (.var 0) (.var 1) (.var 2) (.var 3))), .sv (.one (.sl (.var 4) (.var 5) (.var 6) (.var 7)))]
  mem := [.ro 8 [.var 0] true, .ro 9 [.var 4] true]
  nv := 10
  nd := rsameNd
  ok := by kernel_rfl
theorem rsameS_ok : rsameS.OK Tryd.prog := by
  refine Spec.of_fn (Γ := []) (fun _ h => by cases h) ?_
  rintro xs Hs Rs hl1 hl2 ⟨a, b, R1, R2, ra, rb, rfl, rfl, h1, h2, hlen⟩
  have e0 : Hs = [] := List.length_eq_zero_iff.1 hl1
  subst e0
  obtain ⟨us, x, y, c, rfl, hy, hul, hcell, hrd⟩ := id h1
  obtain ⟨us2, x2, y2, c2, rfl, hy2, hul2, hcell2, hrd2⟩ := id h2
  refine ⟨rsameW, envI [x, y, us.length, c, x2, y2, us2.length, c2] false [Hl.none, Hl.none, Hl.none, Hl.none, Hl.none, Hl.none, Hl.none, Hl.none, R1, R2], fun _ q => ∃ k : Nat, q.i 50 = k ∧ k ≤ ra.length, fun _ q => (ra.length - q.i 50).toNat, ?_, ⟨?_, ?_, ?_, ?_⟩, (fun _ h => nomatch h), ?_⟩
  · show [Value.slice (slP x y) ((us.length : Int)).toNat ((c : Int)).toNat, Value.slice (slP x2 y2) ((us2.length : Int)).toNat ((c2 : Int)).toNat] = _
    simp only [Int.toNat_natCast]
  · intro r hr ho; simp [rsameW] at hr; rcases hr with rfl | rfl <;> cases ho
  · intro r hr ho; simp [rsameW] at hr
    rcases hr with rfl | rfl
    · exact ⟨R1, by simp, Hl.le_refl _⟩
    · exact ⟨R2, by simp, Hl.le_refl _⟩
  · simp [rsameW, Res.own]
  · intro r hr; simp [rsameW] at hr; rcases hr with rfl | rfl <;> trivial
  · show Nd.holds _ _ _ rsameNd
    generalize hρ : envI [x, y, us.length, c, x2, y2, us2.length, c2] false [Hl.none, Hl.none, Hl.none, Hl.none, Hl.none, Hl.none, Hl.none, Hl.none, R1, R2] = ρ
    have v0 : ρ.i 0 = x := by rw [← hρ]; rfl
    have v1 : ρ.i 1 = y := by rw [← hρ]; rfl
    have v2 : ρ.i 2 = us.length := by rw [← hρ]; rfl
    have v4 : ρ.i 4 = x2 := by rw [← hρ]; rfl
    have v5 : ρ.i 5 = y2 := by rw [← hρ]; rfl
    have v6 : ρ.i 6 = us2.length := by rw [← hρ]; rfl
    have w8 : ρ.h 8 = R1 := by rw [← hρ]; rfl
    have w9 : ρ.h 9 = R2 := by rw [← hρ]; rfl
    clear hρ
    have out : ∀ (q : Env) (mem : Mem) (e : E), (ra = rb → bev q e = true) → postOf rsameS [.slice (slP x y) us.length c, .slice (slP x2 y2) us2.length c2] [] [R1, R2] q mem (.sv (.one (.bool e))) := by
      intro q mem e he _
      exact ⟨[], [], rfl, rfl, ⟨⟨fun _ => 0, fun _ => bev q e, fun _ => .empty, fun _ => .tuple #[], fun _ => Hl.none⟩, rfl, trivial, trivial⟩, _, _, R1, R2, ra, rb, bev q e, rfl, rfl, h1, h2, rfl, he⟩
    unfold rsameNd
    simp only [Nd.holds, X.pre, X.rel, X.n, Src.ok, Src.len, Src.vals, true_and, and_true, if_true, Nat.mul_one, Nat.add_zero, Nat.reduceAdd, List.length_cons, List.length_nil, bT_tt, bT_ff, bT_bvar, bT_not, bT_and, bT_or, bT_ite, bT_lt, bT_le, bT_eq, bT_beq, bT_seq, bT_hB, bT_his, bT_hby, bT_hism, bT_hks, iev_lit, iev_var, iev_add, iev_sub, iev_mul, iev_wrap, iev_ite, iev_hI, iev_hP, iev_hmlen, sev_ite, sev_slit, sev_sof, sev_svar, TV.ev, SV.ev, CV.ev, List.map_cons, List.map_nil, Res.hl]
    rw [v2, v6]
    refine ⟨by omega, by omega, fun hne => out _ _ _ fun h => absurd (by rw [hul, hul2, h]) hne, fun heq => ⟨⟨0, rfl, Nat.zero_le _⟩, fun q g ⟨k, ek, hk⟩ => ?_⟩⟩
    rw [g.i 0 (by omega), g.i 1 (by omega), g.i 2 (by omega), g.i 4 (by omega), g.i 5 (by omega), g.i 6 (by omega), g.h 8 (by omega), g.h 9 (by omega), v0, v1, v2, v4, v5, v6, w8, w9, ek]
    refine ⟨fun hlt => ?_, fun hge => out _ _ _ fun _ => bev_tt _⟩
    have hk1 : k < ra.length := by omega
    have hk2 : k < rb.length := by omega
    have hu : us[k]? = some us[k] := List.getElem?_eq_getElem (by omega)
    have hu2 : us2[k]? = some us2[k] := List.getElem?_eq_getElem (by omega)
    obtain ⟨hx0, hc⟩ := hcell k _ hu
    obtain ⟨hx2, hc2⟩ := hcell2 k _ hu2
    have r1 := hrd k _ _ hu (List.getElem?_eq_getElem hk1)
    have r2 := hrd2 k _ _ hu2 (List.getElem?_eq_getElem hk2)
    obtain ⟨⟨_, _, _, s1⟩, _, t1, q1⟩ := RdW.parts r1
    obtain ⟨⟨_, _, _, s2⟩, _, t2, q2⟩ := RdW.parts r2
    have hck : R1.cell x.toNat (y + (k : Int)).toNat = some us[k] := by rw [show (y + (k : Int)).toNat = y.toNat + k by omega]; exact hc
    have hck2 : R2.cell x2.toNat (y2 + (k : Int)).toNat = some us2[k] := by rw [show (y2 + (k : Int)).toNat = y2.toNat + k by omega]; exact hc2
    rw [hck, hck2]
    refine ⟨hx0, hy, by omega, by rw [s1]; rfl, t1, hx2, hy2, by omega, by rw [s2]; rfl, t2, fun hne => out _ _ _ fun h => ?_, fun _ => ⟨⟨k + 1, ?_, by omega⟩, ?_⟩⟩
    · have e : ra[k] = rb[k] := by
        have := congrArg (fun l => l[k]?) h
        rw [List.getElem?_eq_getElem hk1, List.getElem?_eq_getElem hk2] at this
        exact Option.some.inj this
      exact absurd (q1.trans ((congrArg bytesOf e).trans q2.symm)) hne
    · show IntKind.i64.wrap (q.i 50 + 1) = _
      rw [ek]; exact wrap_i64 (by omega) (by omega)
    · show ((ra.length : Int) - IntKind.i64.wrap (q.i 50 + 1)).toNat < _
      rw [ek, wrap_i64 (by omega) (by omega)]; omega
end Go.Proofs.YtomdimlnggpgbaaDoor
namespace Go.Proofs.YtomdimlnggpgbaaDoor
open Go Go.Sx Go.Pk
open Go.Proofs.YtomdimlnggpgbaaDoor.D hiding envI noLoops numS
def tsameS : Sx.Spec where
  fn := 12
  own := []
  rd := [0, 1, 2000003]
  res := [.one .bool]
  pre := fun xs Hs Rs => ∃ a b R1 R2 R3 ra rb, xs = [a, b] ∧ Rs = [R1, R2, R3] ∧ RowsB R1 R1 a ra ∧ RowsB R2 R3 b rb ∧ ra.length ≤ 1000000000
  post := fun xs Hs Rs v Hs' F => ∃ a b R1 R2 R3 ra rb z, xs = [a, b] ∧ Rs = [R1, R2, R3] ∧ RowsB R1 R1 a ra ∧ RowsB R2 R3 b rb ∧ v = .bool z ∧ (ra = rb → z = true)
theorem tsame_post {a b v : Value} {R1 R2 R3 F : Hl} {K : List Hl} {ra rb : List (List Int)} (h1 : RowsB R1 R1 a ra) (h2 : RowsB R2 R3 b rb) (hp : tsameS.post [a, b] [] [R1, R2, R3] v K F) : ∃ z, v = .bool z ∧ (ra = rb → z = true) := by
  obtain ⟨a', b', R1', R2', R3', ra', rb', z, e1, e2, h1', h2', hv, hz⟩ := hp
  simp only [List.cons.injEq, and_true] at e1 e2
  obtain ⟨e1, e3⟩ := e1
  obtain ⟨e2, e4, e5⟩ := e2
  subst e1 e2 e3 e4 e5
  obtain rfl := h1.uniq h1'
  obtain rfl := h2.uniq h2'
  exact ⟨z, hv, hz⟩
def tsameNd : Nd := .and (.e (.le (.lit 0) (.var 2))) (.and (.e (.le (.lit 0) (.var 6))) (.and (.imp (.not (.eq (.var 2) (.var 6))) (.post [.ro 10 [] true, .ro 8 [.var 0] true, .ro 9 [.var 4] false] (.sv (.one (.bool .ff))))) (.imp (.eq (.var 2) (.var 6)) (.and (.inv 0 [⟨50, 0, .int .i64 (.lit 0)⟩] []) (.havoc 0 0 11 (.and (.imp (.lt (.var 50) (.var 2)) (.and (.e (.le (.lit 0) (.var 0))) (.and (.e (.le (.lit 0) (.var 1))) (.and (.e (.le (.lit 0) (.var 50))) (.and (.e (.his 8 (.var 0) (.add (.var 1) (.var 50)) 0 .slice)) (.and (.e (.or (.eq (.hP 8 (.var 0) (.add (.var 1) (.var 50)) 0 0) (.lit (-1))) (.or (.eq (.hP 8 (.var 0) (.add (.var 1) (.var 50)) 0 2) (.lit 0)) (.and (.le (.lit 0) (.hP 8 (.var 0) (.add (.var 1) (.var 50)) 0 0)) (.and (.le (.lit 0) (.hP 8 (.var 0) (.add (.var 1) (.var 50)) 0 1)) (.hby 8 (.hP 8 (.var 0) (.add (.var 1) (.var 50)) 0 0) (.hP 8 (.var 0) (.add (.var 1) (.var 50)) 0 1) (.hP 8 (.var 0) (.add (.var 1) (.var 50)) 0 2))))))) (.and (.e (.le (.lit 0) (.var 4))) (.and (.e (.le (.lit 0) (.var 5))) (.and (.e (.lt (.var 50) (.var 6))) (.and (.e (.his 9 (.var 4) (.add (.var 5) (.var 50)) 0 .slice)) (.and (.e (.or (.eq (.hP 9 (.var 4) (.add (.var 5) (.var 50)) 0 0) (.lit (-1))) (.or (.eq (.hP 9 (.var 4) (.add (.var 5) (.var 50)) 0 2) (.lit 0)) (.and (.le (.lit 0) (.hP 9 (.var 4) (.add (.var 5) (.var 50)) 0 0)) (.and (.le (.lit 0) (.hP 9 (.var 4) (.add (.var 5) (.var 50)) 0 1)) (.hby 10 (.hP 9 (.var 4) (.add (.var 5) (.var 50)) 0 0) (.hP 9 (.var 4) (.add (.var 5) (.var 50)) 0 1) (.hP 9 (.var 4) (.add (.var 5) (.var 50)) 0 2))))))) (.and (.imp (.not (.seq (.ite (.eq (.hP 8 (.var 0) (.add (.var 1) (.var 50)) 0 0) (.lit (-1))) (.slit ⟨#[]⟩) (.sof 8 (.hP 8 (.var 0) (.add (.var 1) (.var 50)) 0 0) (.hP 8 (.var 0) (.add (.var 1) (.var 50)) 0 1) (.hP 8 (.var 0) (.add (.var 1) (.var 50)) 0 2))) (.ite (.eq (.hP 9 (.var 4) (.add (.var 5) (.var 50)) 0 0) (.lit (-1))) (.slit ⟨#[]⟩) (.sof 10 (.hP 9 (.var 4) (.add (.var 5) (.var 50)) 0 0) (.hP 9 (.var 4) (.add (.var 5) (.var 50)) 0 1) (.hP 9 (.var 4) (.add (.var 5) (.var 50)) 0 2))))) (.post [.ro 10 [] true, .ro 8 [.var 0] true, .ro 9 [.var 4] false] (.sv (.one (.bool .ff))))) (.imp (.seq (.ite (.eq (.hP 8 (.var 0) (.add (.var 1) (.var 50)) 0 0) (.lit (-1))) (.slit ⟨#[]⟩) (.sof 8 (.hP 8 (.var 0) (.add (.var 1) (.var 50)) 0 0) (.hP 8 (.var 0) (.add (.var 1) (.var 50)) 0 1) (.hP 8 (.var 0) (.add (.var 1) (.var 50)) 0 2))) (.ite (.eq (.hP 9 (.var 4) (.add (.var 5) (.var 50)) 0 0) (.lit (-1))) (.slit ⟨#[]⟩) (.sof 10 (.hP 9 (.var 4) (.add (.var 5) (.var 50)) 0 0) (.hP 9 (.var 4) (.add (.var 5) (.var 50)) 0 1) (.hP 9 (.var 4) (.add (.var 5) (.var 50)) 0 2)))) (.back 0 0 [⟨50, 0, .int .i64 (.wrap .i64 (.add (.var 50) (.lit 1)))⟩] [])))))))))))))) (.imp (.not (.lt (.var 50) (.var 2))) (.post [.ro 10 [] true, .ro 8 [.var 0] true, .ro 9 [.var 4] false] (.sv (.one (.bool .tt)))))))))))
def tsameW : Walk Tryd.prog [] tsameS.fn where
  Λ := fun p => if lp0 p then some ⟨0, [(5, TI .i64 (.var 50))], [], 60⟩ else none
  args := [.sv (.one (.sl (.var 0) (.var 1) (.var 2) (.var 3))), .sv (.one (.sl (.var 4) (.var 5) (.var 6) (.var 7)))]
  mem := [.ro 10 [] true, .ro 8 [.var 0] true, .ro 9 [.var 4] false]
  nv := 11
  nd := tsameNd
  ok := by kernel_rfl
theorem tsameS_ok : tsameS.OK Tryd.prog := by
  refine Spec.of_fn (Γ := []) (fun _ h => by cases h) ?_
  rintro xs Hs Rs hl1 hl2 ⟨a, b, R1, R2, R3, ra, rb, rfl, rfl, h1, h2, hlen⟩
  have e0 : Hs = [] := List.length_eq_zero_iff.1 hl1
  subst e0
  obtain ⟨us, x, y, c, rfl, hy, hul, hcell, hrd⟩ := id h1
  obtain ⟨us2, x2, y2, c2, rfl, hy2, hul2, hcell2, hrd2⟩ := id h2
  refine ⟨tsameW, envI [x, y, us.length, c, x2, y2, us2.length, c2] false [Hl.none, Hl.none, Hl.none, Hl.none, Hl.none, Hl.none, Hl.none, Hl.none, R1, R2, R3], fun _ q => ∃ k : Nat, q.i 50 = k ∧ k ≤ ra.length, fun _ q => (ra.length - q.i 50).toNat, ?_, ⟨?_, ?_, ?_, ?_⟩, (fun _ h => nomatch h), ?_⟩
  · show [Value.slice (slP x y) ((us.length : Int)).toNat ((c : Int)).toNat, Value.slice (slP x2 y2) ((us2.length : Int)).toNat ((c2 : Int)).toNat] = _
    simp only [Int.toNat_natCast]
  · intro r hr ho; simp [tsameW] at hr; rcases hr with rfl | rfl | rfl <;> cases ho
  · intro r hr ho; simp [tsameW] at hr
    rcases hr with rfl | rfl | rfl
    · exact ⟨R3, by simp, Hl.le_refl _⟩
    · exact ⟨R1, by simp, Hl.le_refl _⟩
    · exact ⟨R2, by simp, Hl.le_refl _⟩
  · simp [tsameW, Res.own]
  · intro r hr; simp [tsameW] at hr; rcases hr with rfl | rfl | rfl <;> trivial
  · show Nd.holds _ _ _ tsameNd
    generalize hρ : envI [x, y, us.length, c, x2, y2, us2.length, c2] false [Hl.none, Hl.none, Hl.none, Hl.none, Hl.none, Hl.none, Hl.none, Hl.none, R1, R2, R3] = ρ
    have v0 : ρ.i 0 = x := by rw [← hρ]; rfl
    have v1 : ρ.i 1 = y := by rw [← hρ]; rfl
    have v2 : ρ.i 2 = us.length := by rw [← hρ]; rfl
    have v4 : ρ.i 4 = x2 := by rw [← hρ]; rfl
    have v5 : ρ.i 5 = y2 := by rw [← hρ]; rfl
    have v6 : ρ.i 6 = us2.length := by rw [← hρ]; rfl
    have w8 : ρ.h 8 = R1 := by rw [← hρ]; rfl
    have w9 : ρ.h 9 = R2 := by rw [← hρ]; rfl
    have w10 : ρ.h 10 = R3 := by rw [← hρ]; rfl
    clear hρ
    have out : ∀ (q : Env) (mem : Mem) (e : E), (ra = rb → bev q e = true) → postOf tsameS [.slice (slP x y) us.length c, .slice (slP x2 y2) us2.length c2] [] [R1, R2, R3] q mem (.sv (.one (.bool e))) := by
      intro q mem e he _
      exact ⟨[], [], rfl, rfl, ⟨⟨fun _ => 0, fun _ => bev q e, fun _ => .empty, fun _ => .tuple #[], fun _ => Hl.none⟩, rfl, trivial, trivial⟩, _, _, R1, R2, R3, ra, rb, bev q e, rfl, rfl, h1, h2, rfl, he⟩
    unfold tsameNd
    simp only [Nd.holds, X.pre, X.rel, X.n, Src.ok, Src.len, Src.vals, true_and, and_true, if_true, Nat.mul_one, Nat.add_zero, Nat.reduceAdd, List.length_cons, List.length_nil, bT_tt, bT_ff, bT_bvar, bT_not, bT_and, bT_or, bT_ite, bT_lt, bT_le, bT_eq, bT_beq, bT_seq, bT_hB, bT_his, bT_hby, bT_hism, bT_hks, iev_lit, iev_var, iev_add, iev_sub, iev_mul, iev_wrap, iev_ite, iev_hI, iev_hP, iev_hmlen, sev_ite, sev_slit, sev_sof, sev_svar, TV.ev, SV.ev, CV.ev, List.map_cons, List.map_nil, Res.hl]
    rw [v2, v6]
    refine ⟨by omega, by omega, fun hne => out _ _ _ fun h => absurd (by rw [hul, hul2, h]) hne, fun heq => ⟨⟨0, rfl, Nat.zero_le _⟩, fun q g ⟨k, ek, hk⟩ => ?_⟩⟩
    rw [g.i 0 (by omega), g.i 1 (by omega), g.i 2 (by omega), g.i 4 (by omega), g.i 5 (by omega), g.i 6 (by omega), g.h 8 (by omega), g.h 9 (by omega), g.h 10 (by omega), v0, v1, v2, v4, v5, v6, w8, w9, w10, ek]
    refine ⟨fun hlt => ?_, fun hge => out _ _ _ fun _ => bev_tt _⟩
    have hk1 : k < ra.length := by omega
    have hk2 : k < rb.length := by omega
    have hu : us[k]? = some us[k] := List.getElem?_eq_getElem (by omega)
    have hu2 : us2[k]? = some us2[k] := List.getElem?_eq_getElem (by omega)
    obtain ⟨hx0, hc⟩ := hcell k _ hu
    obtain ⟨hx2, hc2⟩ := hcell2 k _ hu2
    have r1 := hrd k _ _ hu (List.getElem?_eq_getElem hk1)
    have r2 := hrd2 k _ _ hu2 (List.getElem?_eq_getElem hk2)
    obtain ⟨⟨_, _, _, s1⟩, _, t1, q1⟩ := RdW.parts r1
    obtain ⟨⟨_, _, _, s2⟩, _, t2, q2⟩ := RdW.parts r2
    have hck : R1.cell x.toNat (y + (k : Int)).toNat = some us[k] := by rw [show (y + (k : Int)).toNat = y.toNat + k by omega]; exact hc
    have hck2 : R2.cell x2.toNat (y2 + (k : Int)).toNat = some us2[k] := by rw [show (y2 + (k : Int)).toNat = y2.toNat + k by omega]; exact hc2
    rw [hck, hck2]
    refine ⟨hx0, hy, by omega, by rw [s1]; rfl, t1, hx2, hy2, by omega, by rw [s2]; rfl, t2, fun hne => out _ _ _ fun h => ?_, fun _ => ⟨⟨k + 1, ?_, by omega⟩, ?_⟩⟩
    · have e : ra[k] = rb[k] := by
        have := congrArg (fun l => l[k]?) h
        rw [List.getElem?_eq_getElem hk1, List.getElem?_eq_getElem hk2] at this
        exact Option.some.inj this
      exact absurd (q1.trans ((congrArg bytesOf e).trans q2.symm)) hne
    · show IntKind.i64.wrap (q.i 50 + 1) = _
      rw [ek]; exact wrap_i64 (by omega) (by omega)
    · show ((ra.length : Int) - IntKind.i64.wrap (q.i 50 + 1)).toNat < _
      rw [ek, wrap_i64 (by omega) (by omega)]; omega
end Go.Proofs.YtomdimlnggpgbaaDoor
namespace Go.Proofs.YtomdimlnggpgbaaDoor
open Go Go.Sx Go.Pk
open Go.Proofs.YtomdimlnggpgbaaDoor.D hiding envI noLoops numS
def RowsL (F R : Hl) (v : Value) (rows : List (List Int)) : Prop := ∃ us : List Value, OwnsH F 30 1 v rows.length us ∧ ∀ (j : Nat) (u : Value) (r : List Int), us[j]? = some u → rows[j]? = some r → RdW R u r
theorem RowsL.b {F R : Hl} {v : Value} {rows : List (List Int)} (h : RowsL F R v rows) : RowsB F R v rows := by
  obtain ⟨us, ho, hr⟩ := h
  have hul := RowsR.len ho
  have hrep : ∃ (x : Int) (c : Nat), -1 ≤ x ∧ v = .slice (slP x 0) rows.length c := by
    rcases ho.2 with ⟨h, hn⟩ | ⟨g, cap, cur, h, _⟩
    · exact ⟨-1, 0, by omega, by rw [slP_nil, hn]; exact h⟩
    · exact ⟨g, cap, by omega, by rw [slP_pos (by omega)]; simpa using h⟩
  obtain ⟨rx, rc, hrx, rfl⟩ := hrep
  refine ⟨us, rx, 0, rc, by rw [hul], Int.le_refl _, hul, fun j u hu => ?_, hr⟩
  have hj : j < rows.length := by have := (List.getElem?_eq_some_iff.1 hu).1; omega
  have := OwnsH.cellAt (l := (rows.length : Int)) (c := (rc : Int)) (by rw [Int.toNat_natCast, Int.toNat_natCast]; exact ho) hrx hj
  exact ⟨this.1, by rw [Int.toNat_zero, Nat.zero_add, this.2, hu]⟩
theorem RowsL.nil (F R : Hl) : RowsL F R (.slice none 0 0) [] := ⟨[], ⟨rfl, Or.inl ⟨rfl, rfl⟩⟩, (fun j u r h => by simp at h)⟩
theorem RowsL.lenI {F R : Hl} {x l c : Int} {rows : List (List Int)} (h : RowsL F R (.slice (slP x 0) l.toNat c.toNat) rows) (hl : 0 ≤ l) : l = rows.length := by
  obtain ⟨us, ho, _⟩ := h
  rcases ho.2 with ⟨h, hn⟩ | ⟨g, cap, cur, h, _⟩
  · simp only [Value.slice.injEq] at h; omega
  · simp only [Value.slice.injEq] at h; omega
theorem RdW.pos {R : Hl} {x y : Int} {l c : Nat} {bs : List Int} (h : RdW R (.slice (slP x y) l c) bs) (hy : 0 ≤ y) (hne : bs ≠ []) : 0 ≤ x := by
  obtain ⟨x1, y1, c1, he, hy1, hc⟩ := h
  simp only [Value.slice.injEq] at he
  rcases hc with rfl | ⟨h1, hc⟩
  · exact absurd rfl hne
  · rw [(slP_eqS h1 hy1 hy he.1).1]; exact h1
theorem RdW.dropT {R : Hl} {x y y' : Int} {l c l' c' : Nat} {bs : List Int} (h : RdW R (.slice (slP x y) l c) bs) (hy : 0 ≤ y) (n : Nat) (hl : l' = bs.length - n) (h0 : 0 ≤ y') (hy' : n < bs.length → y' = y + n) : RdW R (.slice (slP x y') l' c') (bs.drop n) := by
  rcases Nat.lt_or_ge n bs.length with hn | hn
  · obtain ⟨x1, y1, c1, he, hy1, hc⟩ := h
    simp only [Value.slice.injEq] at he
    rcases hc with rfl | ⟨h1, hc⟩
    · simp at hn
    · obtain ⟨e1, e2⟩ := slP_eqS h1 hy1 hy he.1
      subst e1 e2
      refine ⟨x, y', c', by rw [hl, List.length_drop], h0, Or.inr ⟨h1, fun j z hz => ?_⟩⟩
      rw [List.getElem?_drop] at hz
      have := hc (n + j) z hz
      rw [hy' hn, show (y + (n : Int)).toNat + j = y.toNat + (n + j) by omega]; exact this
  · exact ⟨x, y', c', by rw [hl, List.length_drop], h0, Or.inl (List.drop_eq_nil_of_le hn)⟩
theorem RowsL.snoc {F B G R : Hl} {v v' u : Value} {rows : List (List Int)} {r : List Int} (h : RowsL F R v rows) (hu : RdW R u r)
    (happ : ∀ xs, OwnsH (F.un B) 30 1 v rows.length xs → OwnsH G 30 1 v' (rows.length + 1) (xs ++ [u])) : RowsL G R v' (rows ++ [r]) := by
  obtain ⟨us, ho, hr⟩ := h
  have hul := RowsR.len ho
  refine ⟨us ++ [u], ?_, fun j w s hj hs => ?_⟩
  · rw [List.length_append, List.length_singleton]
    exact happ us (ho.mono (Hl.un_left _ _))
  · rcases Nat.lt_or_ge j us.length with hl | hl
    · rw [List.getElem?_append_left hl] at hj
      rw [List.getElem?_append_left (by omega)] at hs
      exact hr j w s hj hs
    · rw [List.getElem?_append_right hl] at hj
      rw [List.getElem?_append_right (by omega)] at hs
      have hj := List.mem_of_getElem? hj
      have hs := List.mem_of_getElem? hs
      rw [List.mem_singleton] at hj hs
      subst hj; subst hs
      exact hu
def takenRS : Sx.Spec where
  fn := 17
  own := []
  rd := [0]
  res := [.one .sl]
  pre := fun xs Hs Rs => ∃ (x y : Int) (c : Nat) (bs : List Int) (R : Hl), xs = [.slice (slP x y) bs.length c] ∧ Rs = [R] ∧ RdW R (.slice (slP x y) bs.length c) bs ∧ 0 ≤ y ∧ bs.length ≤ c ∧ bytes256 bs ∧ bs.length ≤ 1000000
  post := fun xs Hs Rs v Hs' F => ∃ (u : Value) (bs : List Int) (R : Hl), xs = [u] ∧ Rs = [R] ∧ RdW R u bs ∧ RowsB F R v (takenL bs)
def trΓ : List Sx.Spec := [gotS]
theorem trΓ_ok : ∀ t ∈ trΓ, t.OK Tryd.prog := fun t ht => by
  simp only [trΓ, List.mem_cons, List.mem_nil_iff, or_false] at ht
  rw [ht]; exact gotS_ok
def takenRNd : Nd := .and (.inv 0 [⟨57, 0, .int .i64 (.var 0)⟩, ⟨58, 0, .int .i64 (.var 1)⟩, ⟨50, 0, .int .i64 (.var 2)⟩, ⟨51, 0, .int .i64 (.var 3)⟩, ⟨53, 0, .int .i64 (.lit (-1))⟩, ⟨54, 0, .int .i64 (.lit 0)⟩, ⟨55, 0, .int .i64 (.lit 0)⟩] [(56, none)]) (.havoc 0 0 5 (.and (.e (.le (.lit 0) (.var 50))) (.and (.imp (.lt (.lit 0) (.var 50)) (.and (.pre (.call 0 60 [.sv (.one (.sl (.var 57) (.var 58) (.var 50) (.var 51))), .sv (.agg [.int .u8 (.lit 1), .int .u64 (.lit 4096), .sl (.lit (-1)) (.lit 0) (.lit 0) (.lit 0)])] [] [.ro 4 [] true])) (.ext (.call 0 60 [.sv (.one (.sl (.var 57) (.var 58) (.var 50) (.var 51))), .sv (.agg [.int .u8 (.lit 1), .int .u64 (.lit 4096), .sl (.lit (-1)) (.lit 0) (.lit 0) (.lit 0)])] [] [.ro 4 [] true]) (.and (.imp (.lt (.var 65) (.lit 0)) (.post [.ro 4 [] true, .hp 56 [] [.var 53] [], .hp 60 [] [.var 61] []] (.sv (.one (.sl (.var 53) (.lit 0) (.var 54) (.var 55)))))) (.imp (.not (.lt (.var 65) (.lit 0))) (.ext (.alloc 66) (.ext (.mrg 67 (.hp 56 [] [.var 53] []) (.hp 60 [] [.var 61] [])) (.and (.pre (.app 68 30 1 24 (.sl (.var 53) (.lit 0) (.var 54) (.var 55)) (.var 54) (.hp 67 [56, 60] [.var 53, .var 61, .var 61] []) (.cvs [.sl (.var 61) (.var 62) (.var 63) (.var 64)] 1))) (.ext (.app 68 30 1 24 (.sl (.var 53) (.lit 0) (.var 54) (.var 55)) (.var 54) (.hp 67 [56, 60] [.var 53, .var 61, .var 61] []) (.cvs [.sl (.var 61) (.var 62) (.var 63) (.var 64)] 1)) (.and (.e (.le (.lit (-1)) (.var 57))) (.and (.e (.le (.lit 0) (.var 58))) (.and (.e (.le (.var 65) (.var 50))) (.and (.e (.le (.var 50) (.var 51))) (.back 0 0 [⟨57, 0, .int .i64 (.var 57)⟩, ⟨58, 0, .int .i64 (.ite (.eq (.var 51) (.var 65)) (.var 58) (.add (.var 58) (.var 65)))⟩, ⟨50, 0, .int .i64 (.sub (.var 50) (.var 65))⟩, ⟨51, 0, .int .i64 (.sub (.var 51) (.var 65))⟩, ⟨53, 0, .int .i64 (.var 68)⟩, ⟨54, 0, .int .i64 (.add (.var 54) (.lit 1))⟩, ⟨55, 0, .int .i64 (.var 69)⟩] [(56, some 68)])))))))))))))) (.imp (.not (.lt (.lit 0) (.var 50))) (.post [.ro 4 [] true, .hp 56 [] [.var 53] []] (.sv (.one (.sl (.var 53) (.lit 0) (.var 54) (.var 55)))))))))
def takenRW : Walk Tryd.prog trΓ takenRS.fn where
  Λ := fun p => if lp0 p then some ⟨0, [(0, .sv (.one (.sl (.var 57) (.var 58) (.var 50) (.var 51)))), (3, .sv (.one (.sl (.var 53) (.lit 0) (.var 54) (.var 55))))], [(1, .hp 56 [] [.var 53] [])], 60⟩ else none
  args := [.sv (.one (.sl (.var 0) (.var 1) (.var 2) (.var 3)))]
  mem := [.ro 4 [] true]
  nv := 5
  nd := takenRNd
  ok := by kernel_rfl
theorem trg0 : trΓ[0]? = some gotS := rfl
theorem trr0 : gotS.res = [.one (.int .u64), .one .sl, .one (.int .i64)] := rfl
theorem rusi (n : Nat) : (cpRoots n [Cp.one (Ck.int .u64), Cp.one .sl, Cp.one (Ck.int .i64)] ≠ []) = True := by simp [cpRoots, Cp.roots, Ck.root]
theorem takenRS_ok : takenRS.OK Tryd.prog := by
  refine Spec.of_fn (Γ := trΓ) trΓ_ok ?_
  rintro xs Hs Rs hl1 hl2 ⟨x, y, c, bs, R, rfl, rfl, hRd, hy, hcap, hby, hlen⟩
  have e0 : Hs = [] := List.length_eq_zero_iff.1 hl1
  subst e0
  refine ⟨takenRW, envI [x, y, bs.length, c] false [Hl.none, Hl.none, Hl.none, Hl.none, R], fun _ q => ∃ (rest : List Int) (rows : List (List Int)), q.i 57 = x ∧ 0 ≤ q.i 58 ∧ q.i 50 = rest.length ∧ (rest.length : Int) ≤ q.i 51 ∧ RdW R (.slice (slP x (q.i 58)) rest.length (q.i 51).toNat) rest ∧ bytes256 rest ∧ -1 ≤ q.i 53 ∧ 0 ≤ q.i 54 ∧ 0 ≤ q.i 55 ∧ RowsL (q.h 56) R (.slice (slP (q.i 53) 0) (q.i 54).toNat (q.i 55).toNat) rows ∧ rows ++ takenL rest = takenL bs ∧ rows.length + rest.length ≤ bs.length, fun _ q => (q.i 50).toNat, ?_, ⟨?_, ?_, ?_, ?_⟩, (fun _ h => nomatch h), ?_⟩
  · show [Value.slice (slP x y) ((bs.length : Int)).toNat ((c : Int)).toNat] = _
    rw [Int.toNat_natCast, Int.toNat_natCast]
  · intro r hr ho; simp [takenRW] at hr; subst hr; cases ho
  · intro r hr ho; simp [takenRW] at hr; subst hr; exact ⟨R, by simp, Hl.le_refl _⟩
  · simp [takenRW]
  · intro r hr; simp [takenRW] at hr; subst hr; trivial
  · show Nd.holds _ _ _ takenRNd
    generalize hρ : envI [x, y, bs.length, c] false [Hl.none, Hl.none, Hl.none, Hl.none, R] = ρ
    have v0 : ρ.i 0 = x := by rw [← hρ]; rfl
    have v1 : ρ.i 1 = y := by rw [← hρ]; rfl
    have v2 : ρ.i 2 = bs.length := by rw [← hρ]; rfl
    have v3 : ρ.i 3 = c := by rw [← hρ]; rfl
    have w4 : ρ.h 4 = R := by rw [← hρ]; rfl
    clear hρ
    unfold takenRNd
    simp only [Nd.holds, X.pre, X.rel, X.n, Src.ok, Src.len, Src.vals, true_and, and_true, if_true, Nat.mul_one, Nat.add_zero, Nat.reduceAdd, List.length_cons, List.length_nil, bT_tt, bT_ff, bT_bvar, bT_not, bT_and, bT_or, bT_ite, bT_lt, bT_le, bT_eq, bT_beq, bT_seq, bT_hB, bT_his, bT_hby, bT_hism, bT_hks, iev_lit, iev_var, iev_add, iev_sub, iev_mul, iev_wrap, iev_ite, iev_hI, iev_hP, iev_hmlen, sev_ite, sev_slit, sev_sof, sev_svar, TV.ev, SV.ev, CV.ev, List.map_cons, List.map_nil, Res.hl, cpTV, Cp.sv, Ck.cv, cpSVs, Cp.len, Ck.len, newHs_zero, newHs_one, roots_ne, trg0, trr0, rusi]
    refine ⟨⟨bs, [], v0, by show 0 ≤ ρ.i 1; omega, v2, by show (bs.length : Int) ≤ ρ.i 3; omega, by show RdW R (.slice (slP x (ρ.i 1)) bs.length (ρ.i 3).toNat) bs; rw [v1, v3, Int.toNat_natCast]; exact hRd, hby, Int.le_refl _, Int.le_refl _, Int.le_refl _, RowsL.nil _ _, rfl, by simp⟩, fun q g ⟨rest, rows, e57, y58, e50, l51, hR, hb, x53, y54, x55, hO, hsum, hle⟩ => ?_⟩
    have out : ∀ {q' : Env} {mem : Mem}, okIdx mem [] [1] = true → uni q' mem [1] = q'.h 56 → Agree 60 q q' → rows = takenL bs → postOf takenRS [.slice (slP x y) bs.length c] [] [R] q' mem (.sv (.one (.sl (.var 53) (.lit 0) (.var 54) (.var 55)))) := by
      intro q' mem hok hu hg he _
      refine ⟨[], [1], rfl, hok, ⟨⟨fun k => [q'.i 53, 0, q'.i 54, q'.i 55].getD k 0, fun _ => false, fun _ => .empty, fun _ => .tuple #[], fun _ => Hl.none⟩, rfl, ⟨?_, Int.le_refl _, ?_, ?_⟩, trivial⟩, _, bs, R, rfl, rfl, hRd, ?_⟩
      · show -1 ≤ q'.i 53; rw [hg.i 53 (by omega)]; exact x53
      · show 0 ≤ q'.i 54; rw [hg.i 54 (by omega)]; exact y54
      · show 0 ≤ q'.i 55; rw [hg.i 55 (by omega)]; exact x55
      · rw [hu, ← he]
        show RowsB (q'.h 56) R (.slice (slP (q'.i 53) 0) (q'.i 54).toNat (q'.i 55).toNat) rows
        rw [hg.h 56 (by omega), hg.i 53 (by omega), hg.i 54 (by omega), hg.i 55 (by omega)]
        exact hO.b
    rw [e57, e50, g.h 4 (by omega), w4, Int.toNat_natCast]
    refine ⟨by omega, fun hlt => ⟨⟨x, q.i 58, (q.i 51).toNat, rest, R, rfl, rfl, hR, by have := RdW.pos hR y58 (by rintro rfl; simp at hlt); omega, y58, by omega, hb, by omega⟩, fun q1 g1 ⟨F1, ⟨u', bs', R', tv, n, e1, e2, hR', hv, hbad, hgood⟩, hF1, hn1⟩ => ?_⟩, fun hge => out rfl (hls_one _) (Agree.refl _ _) ?_⟩
    · have e1 := (List.cons.inj e1).1
      have e2 := (List.cons.inj e2).1
      subst e1 e2
      have hbs : rest = bs' := hR.uniq hR'
      subst hbs
      simp only [Value.tuple.injEq, Array.mk.injEq, List.cons.injEq, Value.int.injEq, true_and, and_true] at hv
      obtain ⟨_, htv, h65⟩ := hv
      rw [← htv] at hgood
      have hne : rest ≠ [] := by rintro rfl; simp at hlt
      have hat := takenL_at hne
      refine ⟨fun hneg => out rfl (hls_one _) g1 ?_, fun hpos q2 g2 _ q3 g3 ⟨e7, hd7⟩ => ?_⟩
      · cases hb2 : (tx rest).2.2 with
        | true => rw [← hsum, hat, if_pos hb2, List.append_nil]
        | false => have := (hgood hb2).1; omega
      · have hb2 : (tx rest).2.2 = false := Bool.eq_false_iff.2 fun h => by have := hbad h; omega
        obtain ⟨hn, hRt⟩ := hgood hb2
        have htx := tx_good hb2
        have hng : ¬ ((numR rest).2 = 0 ∨ (4096 : Int) < (numR rest).1 ∨ (rest.length : Int) - (numR rest).2 < ((numR rest).1 : Int)) := fun h => by rw [tx_bad.2 h] at hb2; cases hb2
        have G13 : Agree 66 q1 q3 := g2.trans (g3.mono (by omega))
        have G3 : Agree 60 q q3 := g1.trans (G13.mono (by omega))
        have G2 : Agree 60 q q2 := g1.trans (g2.mono (by omega))
        have h65' : q3.i 65 = n := by rw [G13.i 65 (by omega), h65]
        have hlen3 := RowsL.lenI hO y54
        rw [e7, G2.h 56 (by omega), G3.i 53 (by omega), G3.i 54 (by omega), G3.i 55 (by omega)]
        have hpre : ∃ xs, OwnsH ((q.h 56).un (q2.h 60)) 30 1 (.slice (slP (q.i 53) 0) (q.i 54).toNat (q.i 55).toNat) (q.i 54).toNat xs := by
          obtain ⟨us, ho, _⟩ := hO
          rw [show (q.i 54).toNat = rows.length by omega] at ho ⊢
          exact ⟨us, ho.mono (Hl.un_left _ _)⟩
        refine ⟨⟨hpre, y54, by unfold maxLen; omega, by omega⟩, fun q4 g4 ⟨a1, a2, happ, hk, _, hnw⟩ => ?_⟩
        have G4 : Agree 60 q q4 := G3.trans (g4.mono (by omega))
        have d57 : q4.i 57 = x := by rw [G4.i 57 (by omega), e57]
        have d58 : q4.i 58 = q.i 58 := G4.i 58 (by omega)
        have d50 : q4.i 50 = rest.length := by rw [G4.i 50 (by omega), e50]
        have d51 : q4.i 51 = q.i 51 := G4.i 51 (by omega)
        have d65 : q4.i 65 = n := by rw [g4.i 65 (by omega), h65']
        have hdl : (rest.drop ((numR rest).2 + (numR rest).1)).length = rest.length - ((numR rest).2 + (numR rest).1) := List.length_drop
        have e581 : iev q4 (((E.var 51).eq (.var 65)).ite (.var 58) ((E.var 58).add (.var 65))) = if q.i 51 = n then q.i 58 else q.i 58 + n := by
          rw [iev_ite, bev_eq, iev_var, iev_var, iev_var, iev_add, iev_var, iev_var, d51, d65, d58]
          by_cases h : q.i 51 = n
          · rw [if_pos h, if_pos (by simp [h])]
          · rw [if_neg h, if_neg (by simp [h])]
        have hx : 0 ≤ x := RdW.pos hR y58 hne
        refine ⟨by omega, by omega, by omega, by omega, ⟨(tx rest).2.1, rows ++ [(tx rest).1], d57, ?_, ?_, ?_, ?_, ?_, a1, ?_, a2, ?_, ?_, ?_⟩, ?_⟩
        · show 0 ≤ iev q4 _
          rw [e581]; split <;> omega
        · rw [htx]
          show q4.i 50 - q4.i 65 = ((rest.drop ((numR rest).2 + (numR rest).1)).length : Int)
          omega
        · rw [htx]
          show ((rest.drop ((numR rest).2 + (numR rest).1)).length : Int) ≤ q4.i 51 - q4.i 65
          omega
        · rw [htx]
          refine RdW.dropT hR y58 _ (by rw [List.length_drop]) ?_ ?_
          · show 0 ≤ iev q4 _
            rw [e581]; split <;> omega
          · intro hlt2
            show iev q4 _ = _
            rw [e581, if_neg (by omega)]; omega
        · rw [htx]; exact fun z hz => hb z (List.mem_of_mem_drop hz)
        · show 0 ≤ q4.i 54 + 1
          rw [G4.i 54 (by omega)]; omega
        · rw [show (q.i 54).toNat = rows.length by omega] at happ
          rw [show (q.i 54).toNat = rows.length by omega] at hO
          have := RowsL.snoc hO (r := (tx rest).1) (by rw [G13.i 61 (by omega), G13.i 62 (by omega), G13.i 63 (by omega), G13.i 64 (by omega)]; exact hRt) happ
          show RowsL (q4.h 68) R (.slice (slP (q4.i 68) 0) (q4.i 54 + 1).toNat (q4.i 69).toNat) _
          rw [show (q4.i 54 + 1).toNat = rows.length + 1 by rw [G4.i 54 (by omega)]; omega]; exact this
        · rw [List.append_assoc, ← hsum, hat, if_neg (by rw [hb2]; simp)]; rfl
        · rw [List.length_append, List.length_singleton, htx]
          show rows.length + 1 + (rest.drop ((numR rest).2 + (numR rest).1)).length ≤ _
          omega
        · show (q4.i 50 - q4.i 65).toNat < _
          omega
    · have : rest = [] := List.length_eq_zero_iff.1 (by omega)
      subst this
      rw [← hsum]; exact (List.append_nil _).symm
end Go.Proofs.YtomdimlnggpgbaaDoor
namespace Go.Proofs.YtomdimlnggpgbaaDoor
open Go Go.Sx Go.Pk
open Go.Proofs.YtomdimlnggpgbaaDoor.D hiding envI noLoops numS
def z16 : List Int := List.replicate 16 0
theorem sOpen_new {m : Nat} (h : 6 ≤ m ∧ m ≤ 16384) : sOpenE (newD m) = 0 ∧ sOpen (newD m) = mkS ⟨0, 64 * (((m / 2 : Nat) : Int) - 2), 0, 0, z16, false⟩ [] ⟨((m / 2 : Nat) : Int), 64 * (((m / 2 : Nat) : Int) - 2), 0, 0, z16, false⟩ [] := by
  have hs : (newD m).n = m := by
    show sects m = m
    unfold sects; omega
  have h1 : Holds (newD m) 0 ((m / 2 : Nat) : Int) 0 [] (List.replicate 16 0) := newD_holds (by omega) (by omega) (by omega)
  have h2 : Holds (newD m) (m / 2) ((m / 2 : Nat) : Int) 0 [] (List.replicate 16 0) := newD_holds (by omega) (by omega) (by omega)
  have e1 : lowL (newD m) = ⟨0, 64 * (((m / 2 : Nat) : Int) - 2), 0, 0, z16, false⟩ := by unfold lowL; rw [hs]; exact h1.openL
  have e2 : highL (newD m) = ⟨((m / 2 : Nat) : Int), 64 * (((m / 2 : Nat) : Int) - 2), 0, 0, z16, false⟩ := by unfold highL; rw [hs]; exact h2.openL
  have e3 : lowB (newD m) = [] := by unfold lowB; rw [hs]; exact h1.openB
  have e4 : highB (newD m) = [] := by unfold highB; rw [hs]; exact h2.openB
  refine ⟨?_, ?_⟩
  · unfold sOpenE
    rw [hs, if_neg (by omega)]; rfl
  · unfold sOpen
    rw [e1, e2, e3, e4, if_neg (by show ¬ bigI _ < bigI _; exact Int.lt_irrefl _)]
theorem newD_bytes (n : Int) : bytes256 (newD n).now := fun z hz => by
  have := (List.mem_replicate.1 (show z ∈ List.replicate (64 * sects n) 0 from hz)).2
  subst this
  decide
theorem numC_zero : numC 0 = 0 := rfl
theorem addR_ok {D : DM} {S : SM} {rows : List (List Int)} (ho : S.over = false) (hk : packOk rows) (hne : rows ≠ []) (hr : ((packB rows).length : Int) ≤ S.LA.most - S.bA.length) (he : (appendR D S.LA S.bA (packB rows) S.LA.note).e = 0) :
    (addR D S rows).e = 0 ∧ (addR D S rows).D = (appendR D S.LA S.bA (packB rows) S.LA.note).D ∧ (addR D S rows).S = ⟨(appendR D S.LA S.bA (packB rows) S.LA.note).L, (appendR D S.LA S.bA (packB rows) S.LA.note).bs, S.LB, S.bB, S.recs ++ rows, false⟩ := by
  have e : addR D S rows = addD D S rows (appendR D S.LA S.bA (packB rows) S.LA.note) := by
    unfold addR
    rw [if_neg (by rw [ho]; simp), if_neg (fun h => h hk), if_neg hne, if_neg (by omega)]
  rw [e]
  unfold addD
  rw [he, numC_zero, if_pos rfl, if_neg (fun h => h.1 rfl), ho]
  exact ⟨rfl, rfl, rfl⟩
noncomputable def lwΓ : List Sx.Spec := [newS, sopenS, sroomS, addS, srecS, rsameS, fullS, writeWS, sgenS]
theorem lwΓ_ok : ∀ t ∈ lwΓ, t.OK Tryd.prog := fun t ht => by
  simp only [lwΓ, List.mem_cons, List.mem_nil_iff, or_false] at ht
  rcases ht with rfl | rfl | rfl | rfl | rfl | rfl | rfl | rfl | rfl
  · exact newS_ok
  · exact sopenS_ok
  · exact sroomS_ok
  · exact addS_ok
  · exact srecS_ok
  · exact rsameS_ok
  · exact fullS_ok
  · exact writeWS_ok
  · exact sgenS_ok
theorem lwr0 : newS.res = [.one .ptr] := rfl
theorem lwr1 : sopenS.res = [.one .ptr, .one (.int .i64)] := rfl
theorem lwr2 : sroomS.res = [.one (.int .i64)] := rfl
theorem lwr3 : addS.res = [.one (.int .i64)] := rfl
theorem lwr4 : srecS.res = [.one .sl] := rfl
theorem lwr8 : sgenS.res = [.one (.int .u64)] := rfl
theorem new_post {n : Int} {v : Value} {F : Hl} {K : List Hl} (hp : newS.post [.int .i64 n] [] [] v K F) : DiskAt F v (newD n) := by
  obtain ⟨n1, hx1, hD1⟩ := hp
  have hx1 : n = n1 := by simpa using hx1
  subst hx1
  exact hD1
theorem sopen_post {dp v : Value} {H H' F : Hl} {D : DM} (hD : DiskAt H dp D) (hp : sopenS.post [dp] [H] [] v [H'] F) : ∃ pv, DiskAt H' dp D ∧ v = .tuple #[pv, .int .i64 (sOpenE D)] ∧ (sOpenE D = 0 → StoreAt F pv dp (sOpen D)) ∧ (sOpenE D ≠ 0 → pv = .pointer none) := by
  obtain ⟨dp', Hx, D', H2, pv, e1, e2, hD', e3, hD2, hv, h1, h2⟩ := hp
  simp only [List.cons.injEq, and_true] at e1 e2 e3
  subst e1 e2 e3
  obtain rfl := hD'.uniq hD
  exact ⟨pv, hD2, hv, h1, h2⟩
theorem add_post {p u dp v : Value} {H HD H' HD' R RA RG F : Hl} {S : SM} {D : DM} {rows : List (List Int)} (h1 : StoreAt H p dp S) (h2 : DiskAt HD dp D) (h3 : RowsB R RA u rows) (hp : addS.post [p, u] [H, HD] [R, RA, RG] v [H', HD'] F) :
    DiskAt HD' dp (addR D S rows).D ∧ StoreAt H' p dp (addR D S rows).S ∧ v = .int .i64 (addR D S rows).e := by
  obtain ⟨p', u', Hx, HDx, Rx, RAx, RGx, dp', S', D', rows', H2, HD2, e1, e2, e3, k1, k2, k3, e4, k4, k5, hv⟩ := hp
  simp only [List.cons.injEq, and_true] at e1 e2 e3 e4
  obtain ⟨a1, a2⟩ := e1
  obtain ⟨a3, a4⟩ := e2
  obtain ⟨a5, a6, a7⟩ := e3
  obtain ⟨a8, a9⟩ := e4
  subst a1 a2 a3 a4 a5 a6 a7 a8 a9
  obtain ⟨rfl, rfl⟩ := h1.rd.uniq k1.rd
  obtain rfl := h2.uniq k2
  obtain rfl := h3.uniq k3
  exact ⟨k4, k5, hv⟩
theorem StoreAt.ne {H : Hl} {x y : Int} {dp : Value} {S : SM} (h : StoreAt H (.pointer (slP x y)) dp S) : x ≠ -1 := by
  obtain ⟨a, _, _, _, _, _, _, he, _⟩ := h
  intro hx
  rw [hx, slP_nil] at he
  cases he
theorem RowsR.lenI {F : Hl} {x y l c : Int} {rows : List (List Int)} (h : RowsR F (.slice (slP x y) l.toNat c.toNat) rows) (hl : 0 ≤ l) : l = rows.length := by
  obtain ⟨_, _, _, e⟩ := h.rep
  simp only [Value.slice.injEq] at e
  omega
def awakeS : Sx.Spec where
  fn := 8
  own := []
  rd := [2000000]
  res := [.one .bool]
  pre := fun xs Hs Rs => ∃ R g, xs = [] ∧ Rs = [R] ∧ Gl R g
  post := fun xs Hs Rs v Hs' F => v = .bool true
def awakeNd : Nd := .and (.pre (.call 0 1 [.sv (.one (.int .i64 (.lit 6)))] [] [])) (.ext (.call 0 1 [.sv (.one (.int .i64 (.lit 6)))] [] []) (.and (.pre (.call 1 3 [.sv (.one (.hptr (.var 1) (.var 2)))] [.hp 1 [] [.var 1] []] [])) (.ext (.call 1 3 [.sv (.one (.hptr (.var 1) (.var 2)))] [.hp 1 [] [.var 1] []] []) (.and (.imp (.eq (.var 5) (.lit 0)) (.and (.imp (.not (.eq (.var 3) (.lit (-1)))) (.and (.pre (.call 2 6 [.sv (.one (.hptr (.var 3) (.var 4)))] [] [.hp 4 [] [.var 3] [.var 1]])) (.ext (.call 2 6 [.sv (.one (.hptr (.var 3) (.var 4)))] [] [.hp 4 [] [.var 3] [.var 1]]) (.and (.imp (.eq (.var 6) (.lit 64)) (.ext (.alloc 7) (.ext (.cbs 8 7 [.int .u8 (.lit 120)] 5) (.ext (.alloc 9) (.and (.pre (.call 3 10 [.sv (.one (.hptr (.var 3) (.var 4))), .sv (.one (.sl (.var 9) (.lit 0) (.lit 1) (.lit 1)))] [.hp 4 [] [.var 3] [.var 1], .hp 3 [1] [.var 1] []] [.blk 9 [.sl (.var 7) (.lit 0) (.lit 1) (.lit 1)] 30, .hp 8 [] [.var 7] [], .ro 0 [.lit 0, .lit 1, .lit 2] false])) (.ext (.call 3 10 [.sv (.one (.hptr (.var 3) (.var 4))), .sv (.one (.sl (.var 9) (.lit 0) (.lit 1) (.lit 1)))] [.hp 4 [] [.var 3] [.var 1], .hp 3 [1] [.var 1] []] [.blk 9 [.sl (.var 7) (.lit 0) (.lit 1) (.lit 1)] 30, .hp 8 [] [.var 7] [], .ro 0 [.lit 0, .lit 1, .lit 2] false]) (.and (.imp (.eq (.var 10) (.lit 0)) (.and (.pre (.call 4 13 [.sv (.one (.hptr (.var 3) (.var 4)))] [] [.hp 10 [4] [.var 3] [.var 1]])) (.ext (.call 4 13 [.sv (.one (.hptr (.var 3) (.var 4)))] [] [.hp 10 [4] [.var 3] [.var 1]]) (.and (.e (.le (.lit 0) (.var 15))) (.post [.ro 0 [.lit 0, .lit 1, .lit 2] false, .hp 11 [3, 1] [.var 1] [], .hp 10 [4] [.var 3] [.var 1], .hp 8 [] [.var 7] [], .dead, .hp 13 [] [.var 13] []] (.sv (.one (.bool (.eq (.var 15) (.lit 1)))))))))) (.imp (.not (.eq (.var 10) (.lit 0))) (.post [.ro 0 [.lit 0, .lit 1, .lit 2] false, .hp 11 [3, 1] [.var 1] [], .hp 10 [4] [.var 3] [.var 1], .hp 8 [] [.var 7] [], .dead] (.sv (.one (.bool .ff)))))))))))) (.imp (.not (.eq (.var 6) (.lit 64))) (.post [.ro 0 [.lit 0, .lit 1, .lit 2] false, .hp 3 [1] [.var 1] [], .hp 4 [] [.var 3] [.var 1]] (.sv (.one (.bool .ff))))))))) (.imp (.eq (.var 3) (.lit (-1))) (.post [.ro 0 [.lit 0, .lit 1, .lit 2] false, .hp 3 [1] [.var 1] [], .hp 4 [] [.var 3] [.var 1]] (.sv (.one (.bool .ff))))))) (.imp (.not (.eq (.var 5) (.lit 0))) (.post [.ro 0 [.lit 0, .lit 1, .lit 2] false, .hp 3 [1] [.var 1] [], .hp 4 [] [.var 3] [.var 1]] (.sv (.one (.bool .ff)))))))))
noncomputable def awakeW : Walk Tryd.prog lwΓ awakeS.fn where
  Λ := noLoops
  args := []
  mem := [.ro 0 [.lit 0, .lit 1, .lit 2] false]
  nv := 1
  nd := awakeNd
  ok := by kernel_rfl
theorem lwg0 : lwΓ[0]? = some newS := rfl
theorem lwg1 : lwΓ[1]? = some sopenS := rfl
theorem lwg2 : lwΓ[2]? = some sroomS := rfl
theorem lwg3 : lwΓ[3]? = some addS := rfl
theorem lwg4 : lwΓ[4]? = some srecS := rfl
theorem ex_add : packOk [[120]] ∧ (packB [[120]]).length = 2 := ⟨by intro r hr; rw [List.mem_singleton] at hr; subst hr; decide, by
  have : packB [[120]] = [1, 120] := by
    show (textBytes [120] ++ []) = _
    unfold textBytes
    rw [numB_low (by decide)]; rfl
  rw [this]; rfl⟩
theorem aw_add : (addR (newD 6) (mkS ⟨0, 64, 0, 0, z16, false⟩ [] ⟨3, 64, 0, 0, z16, false⟩ []) [[120]]).e = 0 ∧ (addR (newD 6) (mkS ⟨0, 64, 0, 0, z16, false⟩ [] ⟨3, 64, 0, 0, z16, false⟩ []) [[120]]).S.recs = [[120]] := by
  have hH : Holds (newD 6) 0 3 0 [] (List.replicate 16 0) := newD_holds (by omega) (by omega) (by omega)
  have ha := (hH.append (b := packB [[120]]) (nt' := z16) (by rw [ex_add.2]; decide) (by decide) rfl).1
  obtain ⟨a1, a2, a3⟩ := addR_ok (D := newD 6) (S := mkS ⟨0, 64, 0, 0, z16, false⟩ [] ⟨3, 64, 0, 0, z16, false⟩ []) (rows := [[120]]) rfl ex_add.1 (by simp) (by rw [ex_add.2]; decide) ha
  refine ⟨a1, ?_⟩
  rw [a3]; rfl
theorem awakeS_ok : awakeS.OK Tryd.prog := by
  refine Spec.of_fn (Γ := lwΓ) lwΓ_ok ?_
  rintro xs Hs Rs hl1 hl2 ⟨R, g, rfl, rfl, hG⟩
  have e0 : Hs = [] := List.length_eq_zero_iff.1 hl1
  subst e0
  refine ⟨awakeW, envI [] false [R], fun _ _ => True, fun _ _ => 0, rfl, ⟨?_, ?_, ?_, ?_⟩, (fun _ h => nomatch h), ?_⟩
  · intro r hr ho; simp [awakeW] at hr; subst hr; cases ho
  · intro r hr ho; simp [awakeW] at hr; subst hr; exact ⟨R, by simp, Hl.le_refl _⟩
  · simp [awakeW]
  · intro r hr; simp [awakeW] at hr; subst hr; trivial
  · show Nd.holds _ _ _ awakeNd
    generalize hρ : envI [] false [R] = ρ
    have w0 : ρ.h 0 = R := by rw [← hρ]; rfl
    clear hρ
    obtain ⟨hE, hS⟩ := sOpen_new (m := 6) (by omega)
    have hE : sOpenE (newD 6) = 0 := hE
    have hS : sOpen (newD 6) = mkS ⟨0, 64, 0, 0, z16, false⟩ [] ⟨3, 64, 0, 0, z16, false⟩ [] := hS
    unfold awakeNd
    simp only [Nd.holds, X.pre, X.rel, X.n, Src.ok, Src.len, Src.vals, true_and, and_true, if_true, Nat.mul_one, Nat.add_zero, Nat.reduceAdd, List.length_cons, List.length_nil, bT_tt, bT_ff, bT_bvar, bT_not, bT_and, bT_or, bT_ite, bT_lt, bT_le, bT_eq, bT_beq, bT_seq, bT_hB, bT_his, bT_hby, bT_hism, bT_hks, iev_lit, iev_var, iev_add, iev_sub, iev_mul, iev_wrap, iev_ite, iev_hI, iev_hP, iev_hmlen, sev_ite, sev_slit, sev_sof, sev_svar, TV.ev, SV.ev, CV.ev, List.map_cons, List.map_nil, Res.hl, cpTV, Cp.sv, Ck.cv, cpSVs, Cp.len, Ck.len, newHs_zero, newHs_one, roots_ne, lwg0, lwg1, lwg2, lwg3, lwg4, lwr0, lwr1, lwr2, lwr3, lwr4, rptr, rpi, rsl]
    refine ⟨⟨6, rfl⟩, fun q1 g1 ⟨F1, hp1, hF1, _⟩ => ?_⟩
    have hD1 := new_post hp1
    rw [← hF1 trivial] at hD1
    refine ⟨⟨_, _, _, rfl, rfl, hD1, openB_bytes (newD_bytes 6), openB_bytes (newD_bytes 6)⟩, fun q2 g2 ⟨F2, hp2, hF2, _⟩ => ?_⟩
    obtain ⟨pv, hD2, hv2, hs2, _⟩ := sopen_post hD1 hp2
    simp only [Value.tuple.injEq, Array.mk.injEq, List.cons.injEq, Value.int.injEq, true_and, and_true] at hv2
    obtain ⟨rfl, h5⟩ := hv2
    have hs2 := hs2 hE
    rw [hS, ← hF2 trivial] at hs2
    rw [hE] at h5
    refine ⟨fun _ => ⟨fun _ => ⟨⟨_, _, _, _, rfl, rfl, hs2.rd, by decide⟩, fun q3 g3 ⟨F3, hp3, _⟩ => ?_⟩, fun h => absurd h hs2.ne⟩, fun h => absurd h5 h⟩
    have h6 := sroom_post hs2.rd hp3
    have h6 : q3.i 6 = 64 := by simpa [mkS] using h6
    refine ⟨fun _ q4 g4 p7 q5 g5 h8 q6 g6 p9 => ?_, fun h => absurd h6 h⟩
    have G6 : Agree 7 q3 q6 := g4.trans ((g5.trans (g6.mono (by omega))).mono (by omega))
    have G26 : Agree 6 q2 q6 := g3.trans (G6.mono (by omega))
    have e7 : q6.i 7 = q4.i 7 := by rw [g6.i 7 (by omega), g5.i 7 (by omega)]
    have hrows : RowsB (Hl.one (q6.i 9).toNat (.cells #[Value.slice (slP (q6.i 7) 0) (Int.toNat 1) (Int.toNat 1)] 30 (0, 0))) (q6.h 8) (.slice (slP (q6.i 9) 0) (Int.toNat 1) (Int.toNat 1)) [[120]] := by
      refine ⟨[Value.slice (slP (q6.i 7) 0) (Int.toNat 1) (Int.toNat 1)], q6.i 9, 0, 1, rfl, Int.le_refl _, rfl, fun j u hj => ?_, fun j u r hj hr => ?_⟩
      · refine ⟨p9, ?_⟩
        rw [Hl.one_cell]
        match j with
        | 0 => exact hj
      · match j with
        | 0 =>
          have hj : Value.slice (slP (q6.i 7) 0) (Int.toNat 1) (Int.toNat 1) = u := by simpa using hj
          have hr : [120] = r := by simpa using hr
          subst hj hr
          refine ⟨q6.i 7, 0, 1, rfl, Int.le_refl _, Or.inr ⟨by rw [e7]; exact p7, fun j z hz => ?_⟩⟩
          rw [g6.h 8 (by omega), h8, e7, Hl.one_cell]
          match j with
          | 0 => cases hz; rfl
    have hs6 : StoreAt (q6.h 4) (.pointer (slP (q6.i 3) (q6.i 4))) (.pointer (slP (q1.i 1) (q1.i 2))) (mkS ⟨0, 64, 0, 0, z16, false⟩ [] ⟨3, 64, 0, 0, z16, false⟩ []) := by
      rw [G26.h 4 (by omega), G26.i 3 (by omega), G26.i 4 (by omega)]; exact hs2
    have hD6 : DiskAt (q6.h 3) (.pointer (slP (q1.i 1) (q1.i 2))) (newD 6) := by rw [G26.h 3 (by omega)]; exact hD2
    have hG6 : Gl (q6.h 0) g := by
      rw [G26.h 0 (by omega), g2.h 0 (by omega), g1.h 0 (by omega), w0]; exact hG
    refine ⟨⟨_, _, _, _, _, _, _, g, _, _, _, [[120]], rfl, rfl, rfl, hs6, hD6, hrows, hG6, by decide, by decide, by decide, Int.le_refl _, by decide⟩, fun q7 g7 ⟨F7, hp7, _⟩ => ?_⟩
    obtain ⟨hD7, hs7, hv7⟩ := add_post (H' := q7.h 10) (HD' := q7.h 11) hs6 hD6 hrows hp7
    rw [aw_add.1] at hv7
    have hv7 : q7.i 10 = 0 := by simpa using hv7
    rw [g7.i 3 (by omega), g7.i 4 (by omega)]
    refine ⟨fun _ => ⟨⟨_, _, _, _, rfl, rfl, hs7.rd, by rw [aw_add.2]; decide, by rw [aw_add.2]; decide⟩, fun q8 g8 ⟨F8, hp8, hF8, hn8⟩ => ?_⟩, fun h => absurd hv7 h⟩
    have hn8 : -1 ≤ q8.i 13 ∧ 0 ≤ q8.i 14 ∧ 0 ≤ q8.i 15 ∧ 0 ≤ q8.i 16 := hn8.1
    have hr8 := srec_post hs7.rd hp8
    rw [aw_add.2] at hr8
    have h15 : q8.i 15 = 1 := RowsR.lenI hr8 hn8.2.2.1
    have hbv : bev q8 (.eq (.var 15) (.lit 1)) = true := by
      rw [bev_eq, iev_var, iev_lit, h15]; rfl
    refine ⟨hn8.2.2.1, fun _ => ⟨[], [], rfl, rfl, ⟨⟨fun _ => 0, fun _ => true, fun _ => .empty, fun _ => .tuple #[], fun _ => Hl.none⟩, ?_, trivial, trivial⟩, ?_⟩⟩
    · show Value.bool (bev q8 _) = .bool true
      rw [hbv]
    · show Value.bool (bev q8 _) = .bool true
      rw [hbv]
end Go.Proofs.YtomdimlnggpgbaaDoor
namespace Go.Proofs.YtomdimlnggpgbaaDoor
open Go Go.Sx Go.Pk
open Go.Proofs.YtomdimlnggpgbaaDoor.D hiding envI noLoops numS
theorem takenG_len : ∀ (n : Nat) (bs : List Int), (takenG n bs).length ≤ n ∧ ∀ r ∈ takenG n bs, r.length ≤ 4096
  | 0, _ => ⟨Nat.le_refl _, fun r h => by cases h⟩
  | n + 1, bs => by
    unfold takenG
    split
    · exact ⟨Nat.zero_le _, fun r h => by cases h⟩
    · split
      · exact ⟨Nat.zero_le _, fun r h => by cases h⟩
      · rename_i hb
        obtain ⟨h1, h2⟩ := takenG_len n (tx bs).2.1
        refine ⟨by rw [List.length_cons]; omega, fun r hr => ?_⟩
        rcases List.mem_cons.1 hr with rfl | hr
        · unfold tx inText at hb ⊢
          split
          · simp
          · rename_i hc
            show ((bs.drop _).take _).length ≤ _
            rw [List.length_take]
            omega
        · exact h2 r hr
theorem takenL_len (bs : List Int) : (takenL bs).length ≤ bs.length ∧ ∀ r ∈ takenL bs, r.length ≤ 4096 := takenG_len _ _
theorem lvr9 : awakeS.res = [.one .bool] := rfl
def yes (fn : FuncId) (pre : List Value → List Hl → Prop) (rd : List Nat) : Sx.Spec where
  fn := fn
  own := []
  rd := rd
  res := [.one .bool]
  pre := fun xs Hs Rs => pre xs Rs
  post := fun xs Hs Rs v Hs' F => v = .bool true
theorem yes_out {fn : FuncId} {pre : List Value → List Hl → Prop} {rd : List Nat} {xs : List Value} {Rs : List Hl} {q : Env} {mem : Mem} {e : E} (h : bev q e = true) : postOf (yes fn pre rd) xs [] Rs q mem (.sv (.one (.bool e))) := fun _ =>
  ⟨[], [], rfl, rfl, ⟨⟨fun _ => 0, fun _ => true, fun _ => .empty, fun _ => .tuple #[], fun _ => Hl.none⟩, by show Value.bool (bev q e) = .bool true; rw [h], trivial, trivial⟩, by show Value.bool (bev q e) = .bool true; rw [h]⟩
end Go.Proofs.YtomdimlnggpgbaaDoor
namespace Go.Proofs.YtomdimlnggpgbaaDoor.D
open Go Go.Sx
theorem putD_out {D : DM} (h : D.ok) {i : Int} (hi : D.has i = true) {bs : List Int} (hb : bs.length = 64) {j : Nat} (hj : ¬ (64 * i.toNat ≤ j ∧ j < 64 * i.toNat + 64)) : (putD D i bs).now[j]? = D.now[j]? := by
  rw [putD_get h hi hb, if_neg hj]
theorem fillGo_out (frm : Nat) (all : List Int) (B : Nat) : ∀ (f i : Nat) (D : DM), Sure D → all.length + 1 ≤ f + i → all.length + 64 * (frm + 2) ≤ 64 * D.n → 64 * (frm + 2) + all.length ≤ 64 * B →
    ∀ j, (j < 64 * frm ∨ 64 * B ≤ j) → (fillGo frm all f i D).2.now[j]? = D.now[j]? := by
  intro f
  induction f with
  | zero =>
    intro i D h h1 h2 h3 j hj
    show (syncR D).2.now[j]? = _
    rw [(syncR_sure h).2.2.1]
  | succ f ih =>
    intro i D h h1 h2 h3 j hj
    have ec : (frm : Int) + 2 + i = ((frm + 2 + i : Nat) : Int) := by omega
    by_cases hlt : 64 * i < all.length
    · have hi : D.has ((frm : Int) + 2 + i) = true := by unfold DM.has; simp only [decide_eq_true_eq]; omega
      have hw := writeR_sure h hi (secA_length all i)
      have e : fillGo frm all (f + 1) i D = fillGo frm all f (i + 1) (putD D ((frm : Int) + 2 + i) (secA all i)) := by
        show (if 64 * i < all.length then _ else _) = _
        rw [if_pos hlt, hw]; simp
      rw [e, ih (i + 1) _ (putD_sure h hi (secA_length all i)) (by omega) h2 h3 j hj, putD_out h.ok hi (secA_length all i)]
      rw [ec, Int.toNat_natCast]; omega
    · have e : fillGo frm all (f + 1) i D = syncR D := by
        show (if 64 * i < all.length then _ else _) = _
        rw [if_neg hlt]
      rw [e, (syncR_sure h).2.2.1]
theorem Holds.out {D : DM} {frm : Nat} {n : Int} {k : Nat} {all nt : List Int} (h : Holds D frm n k all nt) {b nt' : List Int} (hb : (all.length : Int) + b.length ≤ 64 * (n - 2)) (hk : k < 1000000) (hn' : nt'.length = 16) :
    (appendR D ⟨frm, 64 * (n - 2), k, all.length, nt, false⟩ all b nt').D.n = D.n ∧ ∀ j : Nat, ((j : Int) < 64 * frm ∨ 64 * (frm + n) ≤ (j : Int)) → (appendR D ⟨frm, 64 * (n - 2), k, all.length, nt, false⟩ all b nt').D.now[j]? = D.now[j]? := by
  obtain ⟨r1, r2⟩ := h.rng
  have hDn := h.sure.ok.n
  have hal : (all ++ b).length = all.length + b.length := List.length_append
  obtain ⟨L, hL⟩ : ∃ L : LM, L = ⟨frm, 64 * (n - 2), k, all.length, nt, false⟩ := ⟨_, rfl⟩
  rw [← hL]
  have f1 : L.frm = frm := by rw [hL]
  have f2 : L.most = 64 * (n - 2) := by rw [hL]
  have f3 : L.serial = k := by rw [hL]
  have f4 : L.over = false := by rw [hL]
  obtain ⟨F, hF⟩ : ∃ F, F = (fillR D L.frm (all ++ b) all.length).2 := ⟨_, rfl⟩
  obtain ⟨a1, a2, a3, _, _⟩ := fillGo_sure frm (all ++ b) ((all ++ b).length + 1) (all.length / 64) D h.sure (by omega) (by omega)
  have ao := fillGo_out frm (all ++ b) (frm + n.toNat) ((all ++ b).length + 1) (all.length / 64) D h.sure (by omega) (by omega) (by omega)
  have efr : fillR D L.frm (all ++ b) all.length = fillGo frm (all ++ b) ((all ++ b).length + 1) (all.length / 64) D := by
    unfold fillR
    rw [f1, show (((all.length : Nat) : Int) / 64).toNat = all.length / 64 by omega]
  rw [← efr] at a1 a2 a3 ao
  rw [← hF] at a2 a3 ao
  obtain ⟨N, hN⟩ : ∃ N, N = newH L (all ++ b) nt' := ⟨_, rfl⟩
  have eN : N = ((k + 1 : Nat) : Int) :: ((all ++ b).length : Int) :: nt' := by
    rw [hN]; unfold newH; rw [f3]; rfl
  have hp : ((k + 1 : Nat) : Int).tmod 2 = (((k + 1) % 2 : Nat) : Int) := by
    rw [Int.tmod_eq_emod_of_nonneg (by omega)]; omega
  obtain ⟨p, hpp⟩ : ∃ p, p = (k + 1) % 2 := ⟨_, rfl⟩
  have hp2 : p < 2 := by omega
  obtain ⟨b1, _⟩ := half_head (a := ((k + 1 : Nat) : Int)) (b := ((all ++ b).length : Int)) (nt := nt') ⟨by omega, by omega⟩ ⟨by omega, by omega⟩ hn'
  rw [← eN] at b1
  have hhl : (halfL N ++ halfL N).length = 64 := by rw [List.length_append, b1]
  have ei : ∀ q : Nat, (frm : Int) + ((q : Nat) : Int) = ((frm + q : Nat) : Int) := fun q => by omega
  have hasF : F.has ((frm : Int) + (p : Int)) = true := by unfold DM.has; rw [a3]; simp only [decide_eq_true_eq]; omega
  have hw := writeR_sure a2 hasF hhl
  obtain ⟨G, hG⟩ : ∃ G, G = putD F ((frm : Int) + (p : Int)) (halfL N ++ halfL N) := ⟨_, rfl⟩
  rw [← hG] at hw
  have hGs : Sure G := by rw [hG]; exact putD_sure a2 hasF hhl
  have hGn : G.n = D.n := by rw [hG, ← a3]; rfl
  obtain ⟨s1, s2, s3, s4⟩ := syncR_sure hGs
  have htn : turnR F L.frm N = syncR G := by
    unfold turnR
    have e0 : N.getD 0 0 = ((k + 1 : Nat) : Int) := by rw [eN]; rfl
    rw [f1, e0, hp, ← hpp, hw]; simp
  have hbec : becomeR D L (all ++ b) nt' all.length = (0, (syncR G).2) := by
    unfold becomeR
    rw [if_neg (by rw [a1]; simp), ← hF, ← hN, htn, if_neg (by rw [s1]; simp)]
  have happ : appendR D L all b nt' = ⟨0, (syncR G).2, grownL L (all ++ b) nt', all ++ b⟩ := by
    unfold appendR
    rw [f4, f3, f2, if_neg (by simp), if_neg (by omega), if_neg (by omega), hbec]; rfl
  rw [happ]
  refine ⟨s4.trans hGn, fun j hj => ?_⟩
  show (syncR G).2.now[j]? = _
  rw [s3, hG, putD_out a2.ok hasF hhl (by rw [ei p, Int.toNat_natCast]; omega)]
  exact ao j (by omega)
theorem Holds.keep {D D' : DM} {frm : Nat} {n : Int} {k : Nat} {all nt : List Int} (h : Holds D frm n k all nt) (hs : Sure D') (hn : D'.n = D.n) (hsame : ∀ j : Nat, 64 * (frm : Int) ≤ j → (j : Int) < 64 * (frm + n) → D'.now[j]? = D.now[j]?) : Holds D' frm n k all nt := by
  obtain ⟨r1, r2⟩ := h.rng
  have hl := h.len
  have rd : ∀ q : Nat, q < 2 → lreadR D' frm (64 * (n - 2)) (q : Int) = lreadR D frm (64 * (n - 2)) (q : Int) := by
    intro q hq
    refine lread_same h.sure hs hn (by unfold DM.has; simp only [decide_eq_true_eq]; omega) (sector_same fun j h1 h2 => hsame j ?_ ?_)
    · omega
    · omega
  refine ⟨hs, ⟨r1, by rw [hn]; exact r2⟩, hl, h.note, ?_, ?_, fun t z ht => ?_⟩
  · rw [rd _ (by omega)]; exact h.cur
  · have e1 : lreadR D' frm (64 * (n - 2)) 1 = lreadR D frm (64 * (n - 2)) 1 := rd 1 (by omega)
    rw [rd _ (by omega), e1]; exact h.oth
  · have hlt := (List.getElem?_eq_some_iff.1 ht).1
    rw [hsame _ (by omega) (by omega)]
    exact h.bytes t z ht
end Go.Proofs.YtomdimlnggpgbaaDoor.D
namespace Go.Proofs.YtomdimlnggpgbaaDoor
open Go Go.Sx Go.Pk
open Go.Proofs.YtomdimlnggpgbaaDoor.D hiding envI noLoops numS
theorem tx_text {r rest : List Int} (h : r.length ≤ 4096) : tx (textBytes r ++ rest) = (r, rest, false) := by
  have e : numR (textBytes r ++ rest) = (r.length, (numB r.length).length) := by
    unfold numR textBytes
    rw [List.append_assoc, numAt_enc (by omega)]
    rfl
  have hp := numB_pos r.length
  unfold tx inText
  rw [e, if_neg]
  · show (((textBytes r ++ rest).drop (numB r.length).length).take r.length, (textBytes r ++ rest).drop ((numB r.length).length + r.length), false) = _
    unfold textBytes
    rw [List.append_assoc, List.drop_left' rfl, List.take_left' rfl, ← List.drop_drop, List.drop_left' rfl, List.drop_left' rfl]
  · show ¬ (false = true ∨ (numB r.length).length = 0 ∨ (4096 : Int) < 0 ∨ min (min 4096 4096) (((textBytes r ++ rest).length : Int) - ((numB r.length).length : Nat)) < ((r.length : Nat) : Int))
    have : (textBytes r ++ rest).length = (numB r.length).length + r.length + rest.length := by unfold textBytes; simp; omega
    rw [this]
    simp only [Bool.false_eq_true, false_or]
    omega
theorem packB_cons (r : List Int) (rows : List (List Int)) : packB (r :: rows) = textBytes r ++ packB rows := rfl
theorem packB_one (r : List Int) : packB [r] = textBytes r := by rw [packB_cons]; exact List.append_nil _
theorem takenL_pack : ∀ {rows : List (List Int)}, packOk rows → takenL (packB rows) = rows
  | [], _ => rfl
  | r :: rows, h => by
    have hr := h r (List.mem_cons_self ..)
    have hp := numB_pos r.length
    rw [packB_cons, takenL_at (by intro e; have := congrArg List.length e; unfold textBytes at this; rw [List.length_append, List.length_append] at this; simp only [List.length_nil] at this; omega), tx_text hr, if_neg (by simp)]
    show r :: takenL (packB rows) = _
    rw [takenL_pack fun s hs => h s (List.mem_cons_of_mem _ hs)]
theorem textBytes_len {r : List Int} (h : r.length ≤ 100) : (textBytes r).length ≤ 101 := by
  unfold textBytes
  rw [numB_low (by omega)]; simp; omega
theorem packB_len : ∀ {rows : List (List Int)}, (∀ r ∈ rows, r.length ≤ 100) → (packB rows).length ≤ 101 * rows.length
  | [], _ => Nat.le_refl _
  | r :: rows, h => by
    have h1 := textBytes_len (h r (List.mem_cons_self ..))
    have h2 := packB_len (rows := rows) fun s hs => h s (List.mem_cons_of_mem _ hs)
    rw [packB_cons, List.length_append, List.length_cons]; omega
end Go.Proofs.YtomdimlnggpgbaaDoor
namespace Go.Proofs.YtomdimlnggpgbaaDoor
open Go Go.Sx Go.Pk
open Go.Proofs.YtomdimlnggpgbaaDoor.D hiding envI noLoops numS
def low0 (k : Nat) (all : List Int) : LM := ⟨0, 6272, k, all.length, z16, false⟩
def high0 : LM := ⟨100, 6272, 0, 0, z16, false⟩
structure GI (D : DM) (rows : List (List Int)) (k : Nat) : Prop where
  n : D.n = 200
  lo : Holds D 0 100 k (packB (rows.take k)) z16
  hi : Holds D 100 100 0 [] z16
  short : ∀ r ∈ rows.take k, r.length ≤ 100
theorem GI.new (rows : List (List Int)) : GI (newD 200) rows 0 where
  n := rfl
  lo := newD_holds (by omega) (by omega) (by omega)
  hi := newD_holds (by omega) (by omega) (by omega)
  short := fun r hr => by simp at hr
theorem GI.ok {D : DM} {rows : List (List Int)} {k : Nat} (h : GI D rows k) : packOk (rows.take k) := fun r hr => by have := h.short r hr; omega
theorem GI.open {D : DM} {rows : List (List Int)} {k : Nat} (h : GI D rows k) : sOpenE D = 0 ∧ sOpen D = ⟨low0 k (packB (rows.take k)), packB (rows.take k), high0, [], rows.take k, false⟩ ∧ lowB D = packB (rows.take k) ∧ highB D = [] := by
  have e1 : lowL D = low0 k (packB (rows.take k)) := by unfold lowL; rw [h.n]; exact h.lo.openL
  have e2 : highL D = high0 := by unfold highL; rw [h.n]; exact h.hi.openL
  have e3 : lowB D = packB (rows.take k) := by unfold lowB; rw [h.n]; exact h.lo.openB
  have e4 : highB D = [] := by unfold highB; rw [h.n]; exact h.hi.openB
  refine ⟨?_, ?_, e3, e4⟩
  · unfold sOpenE
    rw [h.n, h.lo.sure.gone, if_neg (by decide)]; rfl
  · unfold sOpen
    rw [e1, e2, e3, e4, if_neg (by show ¬ bigI _ < bigI _; exact Int.lt_irrefl _)]
    unfold mkS
    rw [takenL_pack h.ok]
theorem GI.room {D : DM} {rows : List (List Int)} {k : Nat} (h : GI D rows k) (hk : k ≤ 20) : (packB (rows.take k)).length ≤ 2020 := by
  have := packB_len h.short
  have hl : (rows.take k).length ≤ k := by rw [List.length_take]; omega
  have : 101 * (rows.take k).length ≤ 101 * 20 := Nat.mul_le_mul_left _ (by omega)
  omega
theorem GI.step {D : DM} {rows : List (List Int)} {k : Nat} {r : List Int} (h : GI D rows k) (hk : rows[k]? = some r) (hr : r.length ≤ 100) (hk20 : k < 20) : (addR D (sOpen D) [r]).e = 0 ∧ GI (addR D (sOpen D) [r]).D rows (k + 1) := by
  obtain ⟨_, hS, _, _⟩ := h.open
  have hroom := h.room (by omega)
  have hone : (packB [r]).length ≤ 101 := by rw [packB_one]; exact textBytes_len hr
  have hcap : (((packB (rows.take k)).length : Nat) : Int) + ((packB [r]).length : Nat) ≤ 64 * ((100 : Int) - 2) := by omega
  obtain ⟨a1, a2, a3, a4⟩ := h.lo.append (b := packB [r]) (nt' := z16) hcap (by omega) rfl
  obtain ⟨o1, o2⟩ := h.lo.out (b := packB [r]) (nt' := z16) hcap (by omega) rfl
  have hok : packOk [r] := fun s hs => by rw [List.mem_singleton] at hs; subst hs; omega
  rw [hS]
  obtain ⟨b1, b2, b3⟩ := addR_ok (D := D) (S := ⟨low0 k (packB (rows.take k)), packB (rows.take k), high0, [], rows.take k, false⟩) (rows := [r]) rfl hok (by simp) (by show ((packB [r]).length : Int) ≤ 6272 - ((packB (rows.take k)).length : Int); omega) a1
  refine ⟨b1, ?_⟩
  rw [b2]
  have hpk := packB_take hk
  refine ⟨o1.trans h.n, ?_, ?_, fun s hs => ?_⟩
  · rw [hpk, ← packB_one r]; exact a2
  · exact h.hi.keep a2.sure o1 fun j h1 h2 => o2 j (Or.inr (by omega))
  · rw [List.take_add_one, hk, Option.toList_some] at hs
    rcases List.mem_append.1 hs with h1 | h1
    · exact h.short s h1
    · rw [List.mem_singleton] at h1; subst h1; exact hr
theorem GI.all {rows : List (List Int)} (hr : ∀ r ∈ rows, r.length ≤ 100) (hn : rows.length ≤ 20) : (addR (newD 200) (sOpen (newD 200)) rows).e = 0 ∧ (addR (newD 200) (sOpen (newD 200)) rows).S.recs = rows ∧ (addR (newD 200) (sOpen (newD 200)) rows).S.LA.most = 6272 ∧ (addR (newD 200) (sOpen (newD 200)) rows).S.bA = packB rows := by
  have h := GI.new rows
  obtain ⟨_, hS, _, _⟩ := h.open
  have hlen := packB_len hr
  have : 101 * rows.length ≤ 101 * 20 := Nat.mul_le_mul_left _ hn
  have hok : packOk rows := fun r hm => by have := hr r hm; omega
  rw [hS]
  by_cases hne : rows = []
  · subst hne
    have e : addR (newD 200) ⟨low0 0 (packB (List.take 0 [])), packB (List.take 0 []), high0, [], List.take 0 [], false⟩ [] = ⟨0, newD 200, ⟨low0 0 (packB (List.take 0 [])), packB (List.take 0 []), high0, [], List.take 0 [], false⟩⟩ := by
      unfold addR
      rw [if_neg (by simp), if_neg (fun h => h hok), if_pos rfl]
    rw [e]
    exact ⟨rfl, rfl, rfl, rfl⟩
  · obtain ⟨a1, a2, a3, a4⟩ := h.lo.append (b := packB rows) (nt' := z16) (by show ((([] : List Int).length : Nat) : Int) + _ ≤ _; simp; omega) (by omega) rfl
    obtain ⟨b1, b2, b3⟩ := addR_ok (D := newD 200) (S := ⟨low0 0 (packB (rows.take 0)), packB (rows.take 0), high0, [], rows.take 0, false⟩) (rows := rows) rfl hok hne (by show ((packB rows).length : Int) ≤ 6272 - 0; omega) a1
    refine ⟨b1, ?_, ?_, ?_⟩
    · rw [b3]; rfl
    · rw [b3]
      exact congrArg LM.most a4
    · rw [b3]
      exact a3
end Go.Proofs.YtomdimlnggpgbaaDoor
namespace Go.Proofs.YtomdimlnggpgbaaDoor
open Go Go.Sx Go.Pk
open Go.Proofs.YtomdimlnggpgbaaDoor.D hiding envI noLoops numS
theorem sopen_pre {dp : Value} {H : Hl} {D : DM} (h : DiskAt H dp D) (h1 : bytes256 (lowB D)) (h2 : bytes256 (highB D)) : sopenS.pre [dp] [H] [] := ⟨_, _, _, rfl, rfl, h, h1, h2⟩
end Go.Proofs.YtomdimlnggpgbaaDoor
namespace Go.Proofs.YtomdimlnggpgbaaDoor
open Go Go.Sx Go.Pk
open Go.Proofs.YtomdimlnggpgbaaDoor.D hiding envI noLoops numS
noncomputable def lpΓ : List Sx.Spec := [newS, sopenS, openS, appendS, srecS, tsameS, takenRS, sgenS, awakeS]
theorem lpΓ_ok : ∀ t ∈ lpΓ, t.OK Tryd.prog := fun t ht => by
  simp only [lpΓ, List.mem_cons, List.mem_nil_iff, or_false] at ht
  rcases ht with rfl | rfl | rfl | rfl | rfl | rfl | rfl | rfl | rfl
  · exact newS_ok
  · exact sopenS_ok
  · exact openS_ok
  · exact appendS_ok
  · exact srecS_ok
  · exact tsameS_ok
  · exact takenRS_ok
  · exact sgenS_ok
  · exact awakeS_ok
theorem lpg0 : lpΓ[0]? = some newS := rfl
theorem lpg1 : lpΓ[1]? = some sopenS := rfl
theorem lpg2 : lpΓ[2]? = some openS := rfl
theorem lpg3 : lpΓ[3]? = some appendS := rfl
theorem lpg4 : lpΓ[4]? = some srecS := rfl
theorem lpg5 : lpΓ[5]? = some tsameS := rfl
theorem lpg6 : lpΓ[6]? = some takenRS := rfl
theorem lpg7 : lpΓ[7]? = some sgenS := rfl
theorem lpg8 : lpΓ[8]? = some awakeS := rfl
theorem lpr2 : openS.res = [.one .ptr, .one (.int .i64)] := rfl
theorem lpr3 : appendS.res = [.one (.int .i64)] := rfl
theorem lpr5 : tsameS.res = [.one .bool] := rfl
theorem lpr6 : takenRS.res = [.one .sl] := rfl
def nt8 (g : Int) : List Int := be8 g ++ List.replicate 8 0
theorem nt8_gen {g : Int} (h0 : 0 ≤ g) (h1 : g < 18446744073709551616) : bigI ((nt8 g).take 8) = g := big_be8 h0 h1
def logL (frm k n : Nat) (g : Int) : LM := ⟨frm, 512, k, n, nt8 g, false⟩
theorem two_open {D : DM} {a b : List Int} {ga gb : Int} (hn : D.n = 20) (ha : Holds D 0 10 1 a (nt8 ga)) (hb : Holds D 10 10 1 b (nt8 gb)) (g0 : 0 ≤ ga ∧ ga < 18446744073709551616) (g1 : 0 ≤ gb ∧ gb < 18446744073709551616) :
    sOpenE D = 0 ∧ lowB D = a ∧ highB D = b ∧ (sOpen D).recs = (if ga < gb then takenL b else takenL a) ∧ genI (sOpen D).LA = (if ga < gb then gb else ga) := by
  have e1 : lowL D = logL 0 1 a.length ga := by unfold lowL; rw [hn]; exact ha.openL
  have e2 : highL D = logL 10 1 b.length gb := by unfold highL; rw [hn]; exact hb.openL
  have e3 : lowB D = a := by unfold lowB; rw [hn]; exact ha.openB
  have e4 : highB D = b := by unfold highB; rw [hn]; exact hb.openB
  have f1 : genI (logL 0 1 a.length ga) = ga := nt8_gen g0.1 g0.2
  have f2 : genI (logL 10 1 b.length gb) = gb := nt8_gen g1.1 g1.2
  refine ⟨?_, e3, e4, ?_, ?_⟩
  · unfold sOpenE; rw [hn, ha.sure.gone]; rfl
  · unfold sOpen mkS; rw [e1, e2, e3, e4, f1, f2]; split <;> rfl
  · unfold sOpen mkS; rw [e1, e2, e3, e4, f1, f2]; split
    · exact f2
    · exact f1
def ntE (n : Nat) : List CV := [56, 48, 40, 32, 24, 16, 8, 0].map (fun s => CV.int .u8 (.wrap .u8 (.shr .u64 (.var n) (.lit s)))) ++ List.replicate 8 (.int .u8 (.lit 0))
theorem nt_ev {q : Env} {n : Nat} {g : Int} {P : List Value → Prop} (h : q.i n = g) (h0 : 0 ≤ g) (hp : P (bys (nt8 g))) : P ((ntE n).map (CV.ev q)) := by
  have e : (ntE n).map (CV.ev q) = bys (nt8 g) := by
    show _ = (be8 g ++ List.replicate 8 0).map (Value.int .u8)
    rw [List.map_append, ← be8_ev h h0]; rfl
  rw [e]; exact hp
theorem nt_ev' {q : Env} {n : Nat} {g : Int} {P : List Value → Prop} (h : q.i n = g) (h0 : 0 ≤ g) (hp : P ((ntE n).map (CV.ev q))) : P (bys (nt8 g)) := nt_ev (P := fun l => P l → P (bys (nt8 g))) h h0 id hp
theorem takenR_post {u v : Value} {R F : Hl} {K : List Hl} {bs : List Int} (h : RdW R u bs) (hp : takenRS.post [u] [] [R] v K F) : RowsB F R v (takenL bs) := by
  obtain ⟨u', bs', R', e1, e2, hR', hB⟩ := hp
  simp only [List.cons.injEq, and_true] at e1 e2
  subst e1 e2
  rw [h.uniq hR']; exact hB
def sopsS : Sx.Spec := yes 4 (fun xs Rs => ∃ (x1 y1 : Int) (c1 : Nat) (x2 y2 : Int) (c2 : Nat) (a b : List Int) (ga gb : Int) (R RG : Hl) (g : Nat → Addr), xs = [.slice (slP x1 y1) a.length c1, .slice (slP x2 y2) b.length c2, .agg #[.int .u64 ga, .int .u64 gb]] ∧ Rs = [R, RG] ∧ RdW R (.slice (slP x1 y1) a.length c1) a ∧ RdW R (.slice (slP x2 y2) b.length c2) b ∧ 0 ≤ y1 ∧ 0 ≤ y2 ∧ a.length ≤ c1 ∧ b.length ≤ c2 ∧ bytes256 a ∧ bytes256 b ∧ (0 ≤ ga ∧ ga < 18446744073709551616) ∧ (0 ≤ gb ∧ gb < 18446744073709551616) ∧ Gl RG g) [0, 2000000]
def sopsNd : Nd := .ext (.alloc 12) (.and (.pre (.call 8 13 [] [] [.ro 11 [.lit 0, .lit 1, .lit 2] false])) (.ext (.call 8 13 [] [] [.ro 11 [.lit 0, .lit 1, .lit 2] false]) (.and (.imp (.bvar 13) (.and (.e (.le (.lit 0) (.var 2))) (.and (.imp (.not (.lt (.lit 300) (.var 2))) (.and (.e (.le (.lit 0) (.var 6))) (.and (.imp (.lt (.lit 300) (.var 6)) (.and (.pre (.call 8 14 [] [] [.ro 11 [.lit 0, .lit 1, .lit 2] false])) (.ext (.call 8 14 [] [] [.ro 11 [.lit 0, .lit 1, .lit 2] false]) (.post [.ro 10 [.var 0, .var 4] true, .ro 11 [.lit 0, .lit 1, .lit 2] false, .dead] (.sv (.one (.bool (.bvar 14)))))))) (.imp (.not (.lt (.lit 300) (.var 6))) (.and (.pre (.call 0 14 [.sv (.one (.int .i64 (.lit 20)))] [] [])) (.ext (.call 0 14 [.sv (.one (.int .i64 (.lit 20)))] [] []) (.and (.pre (.call 2 16 [.sv (.one (.hptr (.var 14) (.var 15))), .sv (.one (.int .i64 (.lit 0))), .sv (.one (.int .i64 (.lit 10)))] [.hp 14 [] [.var 14] []] [])) (.ext (.call 2 16 [.sv (.one (.hptr (.var 14) (.var 15))), .sv (.one (.int .i64 (.lit 0))), .sv (.one (.int .i64 (.lit 10)))] [.hp 14 [] [.var 14] []] []) (.and (.pre (.call 2 19 [.sv (.one (.hptr (.var 14) (.var 15))), .sv (.one (.int .i64 (.lit 10))), .sv (.one (.int .i64 (.lit 10)))] [.hp 16 [14] [.var 14] []] [])) (.ext (.call 2 19 [.sv (.one (.hptr (.var 14) (.var 15))), .sv (.one (.int .i64 (.lit 10))), .sv (.one (.int .i64 (.lit 10)))] [.hp 16 [14] [.var 14] []] []) (.ext (.alloc 22) (.and (.imp (.eq (.var 18) (.lit 0)) (.and (.imp (.eq (.var 21) (.lit 0)) (.and (.pre (.call 3 23 [.sv (.one (.hptr (.var 16) (.var 17))), .sv (.one (.sl (.var 0) (.var 1) (.var 2) (.var 3))), .sv (.agg [.int .u8 (.wrap .u8 (.shr .u64 (.var 8) (.lit 56))), .int .u8 (.wrap .u8 (.shr .u64 (.var 8) (.lit 48))), .int .u8 (.wrap .u8 (.shr .u64 (.var 8) (.lit 40))), .int .u8 (.wrap .u8 (.shr .u64 (.var 8) (.lit 32))), .int .u8 (.wrap .u8 (.shr .u64 (.var 8) (.lit 24))), .int .u8 (.wrap .u8 (.shr .u64 (.var 8) (.lit 16))), .int .u8 (.wrap .u8 (.shr .u64 (.var 8) (.lit 8))), .int .u8 (.wrap .u8 (.shr .u64 (.var 8) (.lit 0))), .int .u8 (.lit 0), .int .u8 (.lit 0), .int .u8 (.lit 0), .int .u8 (.lit 0), .int .u8 (.lit 0), .int .u8 (.lit 0), .int .u8 (.lit 0), .int .u8 (.lit 0)])] [.hp 17 [] [.var 16] [.var 14], .hp 19 [16, 14] [.var 14] []] [.ro 10 [.var 0, .var 4] true])) (.ext (.call 3 23 [.sv (.one (.hptr (.var 16) (.var 17))), .sv (.one (.sl (.var 0) (.var 1) (.var 2) (.var 3))), .sv (.agg [.int .u8 (.wrap .u8 (.shr .u64 (.var 8) (.lit 56))), .int .u8 (.wrap .u8 (.shr .u64 (.var 8) (.lit 48))), .int .u8 (.wrap .u8 (.shr .u64 (.var 8) (.lit 40))), .int .u8 (.wrap .u8 (.shr .u64 (.var 8) (.lit 32))), .int .u8 (.wrap .u8 (.shr .u64 (.var 8) (.lit 24))), .int .u8 (.wrap .u8 (.shr .u64 (.var 8) (.lit 16))), .int .u8 (.wrap .u8 (.shr .u64 (.var 8) (.lit 8))), .int .u8 (.wrap .u8 (.shr .u64 (.var 8) (.lit 0))), .int .u8 (.lit 0), .int .u8 (.lit 0), .int .u8 (.lit 0), .int .u8 (.lit 0), .int .u8 (.lit 0), .int .u8 (.lit 0), .int .u8 (.lit 0), .int .u8 (.lit 0)])] [.hp 17 [] [.var 16] [.var 14], .hp 19 [16, 14] [.var 14] []] [.ro 10 [.var 0, .var 4] true]) (.and (.imp (.eq (.var 23) (.lit 0)) (.and (.pre (.call 3 26 [.sv (.one (.hptr (.var 19) (.var 20))), .sv (.one (.sl (.var 4) (.var 5) (.var 6) (.var 7))), .sv (.agg [.int .u8 (.wrap .u8 (.shr .u64 (.var 9) (.lit 56))), .int .u8 (.wrap .u8 (.shr .u64 (.var 9) (.lit 48))), .int .u8 (.wrap .u8 (.shr .u64 (.var 9) (.lit 40))), .int .u8 (.wrap .u8 (.shr .u64 (.var 9) (.lit 32))), .int .u8 (.wrap .u8 (.shr .u64 (.var 9) (.lit 24))), .int .u8 (.wrap .u8 (.shr .u64 (.var 9) (.lit 16))), .int .u8 (.wrap .u8 (.shr .u64 (.var 9) (.lit 8))), .int .u8 (.wrap .u8 (.shr .u64 (.var 9) (.lit 0))), .int .u8 (.lit 0), .int .u8 (.lit 0), .int .u8 (.lit 0), .int .u8 (.lit 0), .int .u8 (.lit 0), .int .u8 (.lit 0), .int .u8 (.lit 0), .int .u8 (.lit 0)])] [.hp 20 [] [.var 19] [.var 14], .hp 24 [19, 16, 14] [.var 14] []] [.ro 10 [.var 0, .var 4] true])) (.ext (.call 3 26 [.sv (.one (.hptr (.var 19) (.var 20))), .sv (.one (.sl (.var 4) (.var 5) (.var 6) (.var 7))), .sv (.agg [.int .u8 (.wrap .u8 (.shr .u64 (.var 9) (.lit 56))), .int .u8 (.wrap .u8 (.shr .u64 (.var 9) (.lit 48))), .int .u8 (.wrap .u8 (.shr .u64 (.var 9) (.lit 40))), .int .u8 (.wrap .u8 (.shr .u64 (.var 9) (.lit 32))), .int .u8 (.wrap .u8 (.shr .u64 (.var 9) (.lit 24))), .int .u8 (.wrap .u8 (.shr .u64 (.var 9) (.lit 16))), .int .u8 (.wrap .u8 (.shr .u64 (.var 9) (.lit 8))), .int .u8 (.wrap .u8 (.shr .u64 (.var 9) (.lit 0))), .int .u8 (.lit 0), .int .u8 (.lit 0), .int .u8 (.lit 0), .int .u8 (.lit 0), .int .u8 (.lit 0), .int .u8 (.lit 0), .int .u8 (.lit 0), .int .u8 (.lit 0)])] [.hp 20 [] [.var 19] [.var 14], .hp 24 [19, 16, 14] [.var 14] []] [.ro 10 [.var 0, .var 4] true]) (.and (.imp (.not (.eq (.var 26) (.lit 0))) (.post [.ro 10 [.var 0, .var 4] true, .ro 11 [.lit 0, .lit 1, .lit 2] false, .dead, .hp 27 [24, 19, 16, 14] [.var 14] [], .hp 23 [17] [.var 16] [.var 14], .hp 26 [20] [.var 19] [.var 14], .dead] (.sv (.one (.bool .ff))))) (.imp (.eq (.var 26) (.lit 0)) (.and (.pre (.call 1 29 [.sv (.one (.hptr (.var 14) (.var 15)))] [.hp 27 [24, 19, 16, 14] [.var 14] []] [])) (.ext (.call 1 29 [.sv (.one (.hptr (.var 14) (.var 15)))] [.hp 27 [24, 19, 16, 14] [.var 14] []] []) (.and (.imp (.eq (.var 31) (.lit 0)) (.and (.imp (.eq (.var 29) (.lit (-1))) (.post [.ro 10 [.var 0, .var 4] true, .ro 11 [.lit 0, .lit 1, .lit 2] false, .dead, .hp 29 [27, 24, 19, 16, 14] [.var 14] [], .hp 23 [17] [.var 16] [.var 14], .hp 26 [20] [.var 19] [.var 14], .dead, .hp 30 [] [.var 29] [.var 14]] (.sv (.one (.bool .ff))))) (.imp (.not (.eq (.var 29) (.lit (-1)))) (.and (.imp (.lt (.var 8) (.var 9)) (.and (.pre (.call 4 32 [.sv (.one (.hptr (.var 29) (.var 30)))] [] [.hp 30 [] [.var 29] [.var 14]])) (.ext (.call 4 32 [.sv (.one (.hptr (.var 29) (.var 30)))] [] [.hp 30 [] [.var 29] [.var 14]]) (.and (.pre (.call 6 36 [.sv (.one (.sl (.var 4) (.var 5) (.var 6) (.var 7)))] [] [.ro 10 [.var 0, .var 4] true])) (.ext (.call 6 36 [.sv (.one (.sl (.var 4) (.var 5) (.var 6) (.var 7)))] [] [.ro 10 [.var 0, .var 4] true]) (.and (.pre (.call 5 40 [.sv (.one (.sl (.var 32) (.var 33) (.var 34) (.var 35))), .sv (.one (.sl (.var 36) (.var 37) (.var 38) (.var 39)))] [] [.hp 32 [] [.var 32] [], .hp 36 [] [.var 36] [], .ro 10 [.var 0, .var 4] true])) (.ext (.call 5 40 [.sv (.one (.sl (.var 32) (.var 33) (.var 34) (.var 35))), .sv (.one (.sl (.var 36) (.var 37) (.var 38) (.var 39)))] [] [.hp 32 [] [.var 32] [], .hp 36 [] [.var 36] [], .ro 10 [.var 0, .var 4] true]) (.and (.imp (.bvar 40) (.and (.pre (.call 7 41 [.sv (.one (.hptr (.var 29) (.var 30)))] [] [.hp 30 [] [.var 29] [.var 14]])) (.ext (.call 7 41 [.sv (.one (.hptr (.var 29) (.var 30)))] [] [.hp 30 [] [.var 29] [.var 14]]) (.post [.ro 10 [.var 0, .var 4] true, .ro 11 [.lit 0, .lit 1, .lit 2] false, .dead, .hp 29 [27, 24, 19, 16, 14] [.var 14] [], .hp 23 [17] [.var 16] [.var 14], .hp 26 [20] [.var 19] [.var 14], .dead, .hp 30 [] [.var 29] [.var 14], .hp 32 [] [.var 32] [], .hp 36 [] [.var 36] []] (.sv (.one (.bool (.eq (.var 41) (.var 9))))))))) (.imp (.not (.bvar 40)) (.post [.ro 10 [.var 0, .var 4] true, .ro 11 [.lit 0, .lit 1, .lit 2] false, .dead, .hp 29 [27, 24, 19, 16, 14] [.var 14] [], .hp 23 [17] [.var 16] [.var 14], .hp 26 [20] [.var 19] [.var 14], .dead, .hp 30 [] [.var 29] [.var 14], .hp 32 [] [.var 32] [], .hp 36 [] [.var 36] []] (.sv (.one (.bool .ff))))))))))))) (.imp (.not (.lt (.var 8) (.var 9))) (.and (.pre (.call 4 32 [.sv (.one (.hptr (.var 29) (.var 30)))] [] [.hp 30 [] [.var 29] [.var 14]])) (.ext (.call 4 32 [.sv (.one (.hptr (.var 29) (.var 30)))] [] [.hp 30 [] [.var 29] [.var 14]]) (.and (.pre (.call 6 36 [.sv (.one (.sl (.var 0) (.var 1) (.var 2) (.var 3)))] [] [.ro 10 [.var 0, .var 4] true])) (.ext (.call 6 36 [.sv (.one (.sl (.var 0) (.var 1) (.var 2) (.var 3)))] [] [.ro 10 [.var 0, .var 4] true]) (.and (.pre (.call 5 40 [.sv (.one (.sl (.var 32) (.var 33) (.var 34) (.var 35))), .sv (.one (.sl (.var 36) (.var 37) (.var 38) (.var 39)))] [] [.hp 32 [] [.var 32] [], .hp 36 [] [.var 36] [], .ro 10 [.var 0, .var 4] true])) (.ext (.call 5 40 [.sv (.one (.sl (.var 32) (.var 33) (.var 34) (.var 35))), .sv (.one (.sl (.var 36) (.var 37) (.var 38) (.var 39)))] [] [.hp 32 [] [.var 32] [], .hp 36 [] [.var 36] [], .ro 10 [.var 0, .var 4] true]) (.and (.imp (.bvar 40) (.and (.pre (.call 7 41 [.sv (.one (.hptr (.var 29) (.var 30)))] [] [.hp 30 [] [.var 29] [.var 14]])) (.ext (.call 7 41 [.sv (.one (.hptr (.var 29) (.var 30)))] [] [.hp 30 [] [.var 29] [.var 14]]) (.post [.ro 10 [.var 0, .var 4] true, .ro 11 [.lit 0, .lit 1, .lit 2] false, .dead, .hp 29 [27, 24, 19, 16, 14] [.var 14] [], .hp 23 [17] [.var 16] [.var 14], .hp 26 [20] [.var 19] [.var 14], .dead, .hp 30 [] [.var 29] [.var 14], .hp 32 [] [.var 32] [], .hp 36 [] [.var 36] []] (.sv (.one (.bool (.eq (.var 41) (.var 8))))))))) (.imp (.not (.bvar 40)) (.post [.ro 10 [.var 0, .var 4] true, .ro 11 [.lit 0, .lit 1, .lit 2] false, .dead, .hp 29 [27, 24, 19, 16, 14] [.var 14] [], .hp 23 [17] [.var 16] [.var 14], .hp 26 [20] [.var 19] [.var 14], .dead, .hp 30 [] [.var 29] [.var 14], .hp 32 [] [.var 32] [], .hp 36 [] [.var 36] []] (.sv (.one (.bool .ff))))))))))))))))) (.imp (.not (.eq (.var 31) (.lit 0))) (.post [.ro 10 [.var 0, .var 4] true, .ro 11 [.lit 0, .lit 1, .lit 2] false, .dead, .hp 29 [27, 24, 19, 16, 14] [.var 14] [], .hp 23 [17] [.var 16] [.var 14], .hp 26 [20] [.var 19] [.var 14], .dead, .hp 30 [] [.var 29] [.var 14]] (.sv (.one (.bool .ff))))))))))))) (.imp (.not (.eq (.var 23) (.lit 0))) (.post [.ro 10 [.var 0, .var 4] true, .ro 11 [.lit 0, .lit 1, .lit 2] false, .dead, .hp 24 [19, 16, 14] [.var 14] [], .hp 23 [17] [.var 16] [.var 14], .hp 20 [] [.var 19] [.var 14], .dead] (.sv (.one (.bool .ff))))))))) (.imp (.not (.eq (.var 21) (.lit 0))) (.post [.ro 10 [.var 0, .var 4] true, .ro 11 [.lit 0, .lit 1, .lit 2] false, .dead, .hp 19 [16, 14] [.var 14] [], .hp 17 [] [.var 16] [.var 14], .hp 20 [] [.var 19] [.var 14], .dead] (.sv (.one (.bool .ff))))))) (.imp (.not (.eq (.var 18) (.lit 0))) (.post [.ro 10 [.var 0, .var 4] true, .ro 11 [.lit 0, .lit 1, .lit 2] false, .dead, .hp 19 [16, 14] [.var 14] [], .hp 17 [] [.var 16] [.var 14], .hp 20 [] [.var 19] [.var 14], .dead] (.sv (.one (.bool .ff))))))))))))))))) (.imp (.lt (.lit 300) (.var 2)) (.and (.pre (.call 8 14 [] [] [.ro 11 [.lit 0, .lit 1, .lit 2] false])) (.ext (.call 8 14 [] [] [.ro 11 [.lit 0, .lit 1, .lit 2] false]) (.post [.ro 10 [.var 0, .var 4] true, .ro 11 [.lit 0, .lit 1, .lit 2] false, .dead] (.sv (.one (.bool (.bvar 14))))))))))) (.imp (.not (.bvar 13)) (.and (.pre (.call 8 14 [] [] [.ro 11 [.lit 0, .lit 1, .lit 2] false])) (.ext (.call 8 14 [] [] [.ro 11 [.lit 0, .lit 1, .lit 2] false]) (.post [.ro 10 [.var 0, .var 4] true, .ro 11 [.lit 0, .lit 1, .lit 2] false, .dead] (.sv (.one (.bool (.bvar 14)))))))))))
noncomputable def sopsW : Walk Tryd.prog lpΓ sopsS.fn where
  Λ := noLoops
  args := [.sv (.one (.sl (.var 0) (.var 1) (.var 2) (.var 3))), .sv (.one (.sl (.var 4) (.var 5) (.var 6) (.var 7))), .sv (.agg [.int .u64 (.var 8), .int .u64 (.var 9)])]
  mem := [.ro 10 [.var 0, .var 4] true, .ro 11 [.lit 0, .lit 1, .lit 2] false]
  nv := 12
  nd := sopsNd
  ok := by kernel_rfl
theorem sopsS_ok : sopsS.OK Tryd.prog := by
  refine Spec.of_fn (Γ := lpΓ) lpΓ_ok ?_
  rintro xs Hs Rs hl1 hl2 ⟨x1, y1, c1, x2, y2, c2, a, b, ga, gb, R, RG, g, rfl, rfl, hRa, hRb, hy1, hy2, hc1, hc2, hba, hbb, hga, hgb, hG⟩
  have e0 : Hs = [] := List.length_eq_zero_iff.1 hl1
  subst e0
  refine ⟨sopsW, envI [x1, y1, a.length, c1, x2, y2, b.length, c2, ga, gb] false [Hl.none, Hl.none, Hl.none, Hl.none, Hl.none, Hl.none, Hl.none, Hl.none, Hl.none, Hl.none, R, RG], fun _ _ => True, fun _ _ => 0, ?_, ⟨?_, ?_, ?_, ?_⟩, (fun _ h => nomatch h), ?_⟩
  · show [Value.slice (slP x1 y1) ((a.length : Int)).toNat ((c1 : Int)).toNat, Value.slice (slP x2 y2) ((b.length : Int)).toNat ((c2 : Int)).toNat, _] = _
    simp only [Int.toNat_natCast]; rfl
  · intro r hr ho; simp [sopsW] at hr; rcases hr with rfl | rfl <;> cases ho
  · intro r hr ho; simp [sopsW] at hr
    rcases hr with rfl | rfl
    · exact ⟨R, by simp, Hl.le_refl _⟩
    · exact ⟨RG, by simp, Hl.le_refl _⟩
  · simp [sopsW, Res.own]
  · intro r hr; simp [sopsW] at hr; rcases hr with rfl | rfl <;> trivial
  · show Nd.holds _ _ _ sopsNd
    generalize hρ : envI [x1, y1, a.length, c1, x2, y2, b.length, c2, ga, gb] false [Hl.none, Hl.none, Hl.none, Hl.none, Hl.none, Hl.none, Hl.none, Hl.none, Hl.none, Hl.none, R, RG] = ρ
    have v0 : ρ.i 0 = x1 := by rw [← hρ]; rfl
    have v1 : ρ.i 1 = y1 := by rw [← hρ]; rfl
    have v2 : ρ.i 2 = a.length := by rw [← hρ]; rfl
    have v3 : ρ.i 3 = c1 := by rw [← hρ]; rfl
    have v4 : ρ.i 4 = x2 := by rw [← hρ]; rfl
    have v5 : ρ.i 5 = y2 := by rw [← hρ]; rfl
    have v6 : ρ.i 6 = b.length := by rw [← hρ]; rfl
    have v7 : ρ.i 7 = c2 := by rw [← hρ]; rfl
    have v8 : ρ.i 8 = ga := by rw [← hρ]; rfl
    have v9 : ρ.i 9 = gb := by rw [← hρ]; rfl
    have w10 : ρ.h 10 = R := by rw [← hρ]; rfl
    have w11 : ρ.h 11 = RG := by rw [← hρ]; rfl
    clear hρ
    have V : ∀ q : Env, Agree 12 ρ q → q.i 0 = x1 ∧ q.i 1 = y1 ∧ q.i 2 = a.length ∧ q.i 3 = c1 ∧ q.i 4 = x2 ∧ q.i 5 = y2 ∧ q.i 6 = b.length ∧ q.i 7 = c2 ∧ q.i 8 = ga ∧ q.i 9 = gb ∧ q.h 10 = R ∧ q.h 11 = RG := fun q hg => by
      rw [hg.i 0 (by omega), hg.i 1 (by omega), hg.i 2 (by omega), hg.i 3 (by omega), hg.i 4 (by omega), hg.i 5 (by omega), hg.i 6 (by omega), hg.i 7 (by omega), hg.i 8 (by omega), hg.i 9 (by omega), hg.h 10 (by omega), hg.h 11 (by omega)]
      exact ⟨v0, v1, v2, v3, v4, v5, v6, v7, v8, v9, w10, w11⟩
    unfold sopsNd
    simp only [Nd.holds, X.pre, X.rel, X.n, Src.ok, Src.len, Src.vals, true_and, and_true, if_true, Nat.mul_one, Nat.add_zero, Nat.reduceAdd, List.length_cons, List.length_nil, bT_tt, bT_ff, bT_bvar, bT_not, bT_and, bT_or, bT_ite, bT_lt, bT_le, bT_eq, bT_beq, bT_seq, bT_hB, bT_his, bT_hby, bT_hism, bT_hks, iev_lit, iev_var, iev_add, iev_sub, iev_mul, iev_wrap, iev_ite, iev_hI, iev_hP, iev_hmlen, sev_ite, sev_slit, sev_sof, sev_svar, TV.ev, SV.ev, CV.ev, List.map_cons, List.map_nil, Res.hl, cpTV, Cp.sv, Ck.cv, cpSVs, Cp.len, Ck.len, newHs_zero, newHs_one, roots_ne, lpg0, lpg1, lpg2, lpg3, lpg4, lpg5, lpg6, lpg7, lpg8, lwr0, lwr1, lwr4, lwr8, lpr2, lpr3, lpr5, lpr6, lvr9, rptr, rpi, rsl]
    rintro q0 g0 -
    obtain ⟨e0, e1, e2, e3, e4, e5, e6, e7, e8, e9, e10, e11⟩ := V q0 g0
    rw [e11]
    have aw : awakeS.pre [] [] [RG] := ⟨RG, g, rfl, rfl, hG⟩
    refine ⟨aw, fun q1 g1 ⟨F1, hp1, _⟩ => ?_⟩
    have hb13 : q1.b 13 = true := by
      have h : Value.bool (bev q1 (.bvar 13)) = .bool true := hp1
      rw [bev_bvar] at h
      simpa using h
    have G1 : Agree 12 ρ q1 := g0.trans (g1.mono (by omega))
    obtain ⟨e0, e1, e2, e3, e4, e5, e6, e7, e8, e9, e10, e11⟩ := V q1 G1
    rw [e2, e6, e11]
    have awy : ∀ (q : Env) (F : Hl) (k : Nat), awakeS.post [] [] [RG] (.bool (bev q (.bvar k))) [] F → bev q (.bvar k) = true := fun q F k hp => by
      have h : Value.bool (bev q (.bvar k)) = .bool true := hp
      simpa using h
    refine ⟨fun _ => ⟨by omega, fun hla => ⟨by omega, fun hlb => ⟨aw, fun q2 g2 ⟨F2, hp2, _⟩ => yes_out (awy q2 F2 14 hp2)⟩, fun hlb => ⟨⟨_, rfl⟩, fun q2 g2 ⟨F2, hp2, hF2, _⟩ => ?_⟩⟩, fun hla => ⟨aw, fun q2 g2 ⟨F2, hp2, _⟩ => yes_out (awy q2 F2 14 hp2)⟩⟩, fun h => absurd hb13 h⟩
    have hD2 := new_post hp2
    rw [← hF2 trivial] at hD2
    have hS := newD_sure 20
    have hH0 : Holds (newD 20) 0 10 0 [] z16 := newD_holds (by omega) (by omega) (by omega)
    have hH1 : Holds (newD 20) 10 10 0 [] z16 := newD_holds (by omega) (by omega) (by omega)
    refine ⟨⟨_, _, _, _, _, rfl, rfl, hD2⟩, fun q3 g3 ⟨F3, hp3, hF3, hn3⟩ => ?_⟩
    obtain ⟨pA, hD3, hv3, hA, _⟩ := open_post hD2 hp3
    simp only [Value.tuple.injEq, Array.mk.injEq, List.cons.injEq, Value.int.injEq, true_and, and_true] at hv3
    obtain ⟨rfl, h18⟩ := hv3
    have hE0 : openE (newD 20) 0 10 = 0 := hH0.openE
    have hE1 : openE (newD 20) 10 10 = 0 := hH1.openE
    have eL0 : openL (newD 20) 0 10 = ⟨0, 512, 0, 0, z16, false⟩ := hH0.openL
    have eL1 : openL (newD 20) 10 10 = ⟨10, 512, 0, 0, z16, false⟩ := hH1.openL
    have eB0 : openB (newD 20) 0 10 = [] := hH0.openB
    have eB1 : openB (newD 20) 10 10 = [] := hH1.openB
    rw [hE0] at h18
    have hA := hA hE0
    rw [← hF3 trivial] at hA
    have ep3 : Value.pointer (slP (q3.i 14) (q3.i 15)) = .pointer (slP (q2.i 14) (q2.i 15)) := by rw [g3.i 14 (by omega), g3.i 15 (by omega)]
    rw [ep3]
    refine ⟨⟨_, _, _, _, _, rfl, rfl, hD3⟩, fun q4 g4 ⟨F4, hp4, hF4, hn4⟩ q5 g5 _ => ?_⟩
    obtain ⟨pB, hD4, hv4, hB, _⟩ := open_post hD3 hp4
    simp only [Value.tuple.injEq, Array.mk.injEq, List.cons.injEq, Value.int.injEq, true_and, and_true] at hv4
    obtain ⟨rfl, h21⟩ := hv4
    rw [hE1] at h21
    have hB := hB hE1
    rw [← hF4 trivial] at hB
    have G35 : Agree 19 q3 q5 := g4.trans (g5.mono (by omega))
    have G5 : Agree 12 ρ q5 := G1.trans ((g2.trans ((g3.trans (G35.mono (by omega))).mono (by omega))).mono (by omega))
    obtain ⟨e0, e1, e2, e3, e4, e5, e6, e7, e8, e9, e10, e11⟩ := V q5 G5
    have h18' : q5.i 18 = 0 := by rw [G35.i 18 (by omega)]; exact h18
    have h21' : q5.i 21 = 0 := by rw [g5.i 21 (by omega)]; exact h21
    have hL5 : LogAt (q5.h 17) (.pointer (slP (q5.i 16) (q5.i 17))) (.pointer (slP (q2.i 14) (q2.i 15))) ⟨0, 512, 0, 0, z16, false⟩ [] := by
      rw [G35.h 17 (by omega), G35.i 16 (by omega), G35.i 17 (by omega)]
      rw [eL0, eB0] at hA; exact hA
    have hM5 : LogAt (q5.h 20) (.pointer (slP (q5.i 19) (q5.i 20))) (.pointer (slP (q2.i 14) (q2.i 15))) ⟨10, 512, 0, 0, z16, false⟩ [] := by
      rw [g5.h 20 (by omega), g5.i 19 (by omega), g5.i 20 (by omega)]
      rw [eL1, eB1] at hB; exact hB
    have hD5 : DiskAt (q5.h 19) (.pointer (slP (q2.i 14) (q2.i 15))) (newD 20) := by rw [g5.h 19 (by omega)]; exact hD4
    rw [e0, e1, e2, e3, e10, Int.toNat_natCast, Int.toNat_natCast]
    refine ⟨fun _ => ⟨fun _ => ⟨?_, fun q6 g6 ⟨F6, hp6, _⟩ => ?_⟩, fun h => absurd h21' h⟩, fun h => absurd h18' h⟩
    · exact nt_ev (n := 8) (P := fun l => appendS.pre [_, _, .agg l.toArray] _ _) e8 hga.1 ⟨_, _, a, nt8 ga, _, _, _, _, _, _, _, rfl, rfl, rfl, hL5, hD5, hRa, by decide, rfl, Int.le_refl _⟩
    have hp6 := nt_ev' (n := 8) (P := fun l => appendS.post [.pointer (slP (q5.i 16) (q5.i 17)), .slice (slP x1 y1) a.length c1, .agg l.toArray] [q5.h 17, q5.h 19] [R] (.int .i64 (q6.i 23)) (newHs q6 23 2) F6) e8 hga.1 hp6
    obtain ⟨a1, a2, a3, a4⟩ := hH0.append (b := a) (nt' := nt8 ga) (by simp; omega) (by omega) rfl
    obtain ⟨o1, o2⟩ := hH0.out (b := a) (nt' := nt8 ga) (by simp; omega) (by omega) rfl
    obtain ⟨H6, HD6, hK6, hD6, hL6, hv6⟩ := append_post hL5 hD5 hRa hp6
    have hK6 : [q6.h 23, q6.h 24] = [H6, HD6] := hK6
    simp only [List.cons.injEq, and_true] at hK6
    obtain ⟨k1, k2⟩ := hK6
    rw [← k1] at hL6
    rw [← k2] at hD6
    obtain ⟨D1, hD1⟩ : ∃ D1, D1 = (appendR (newD 20) ⟨0, 512, 0, 0, z16, false⟩ [] a (nt8 ga)).D := ⟨_, rfl⟩
    have b1 : (appendR (newD 20) ⟨0, 512, 0, 0, z16, false⟩ [] a (nt8 ga)).e = 0 := a1
    have b2 : Holds D1 0 10 1 a (nt8 ga) := by rw [hD1]; exact a2
    have b3 : D1.n = 20 := by rw [hD1]; exact o1
    have b4 : Holds D1 10 10 0 [] z16 := hH1.keep b2.sure (b3.trans rfl) fun j h1 h2 => by rw [hD1]; exact o2 j (Or.inr (by omega))
    rw [← hD1] at hD6
    rw [b1] at hv6
    have h23 : q6.i 23 = 0 := by simpa using hv6
    have G6 : Agree 12 ρ q6 := G5.trans (g6.mono (by omega))
    obtain ⟨e0, e1, e2, e3, e4, e5, e6, e7, e8, e9, e10, e11⟩ := V q6 G6
    have hM6 : LogAt (q6.h 20) (.pointer (slP (q6.i 19) (q6.i 20))) (.pointer (slP (q2.i 14) (q2.i 15))) ⟨10, 512, 0, 0, z16, false⟩ [] := by
      rw [g6.h 20 (by omega), g6.i 19 (by omega), g6.i 20 (by omega)]; exact hM5
    rw [e4, e5, e6, e7, e10, Int.toNat_natCast, Int.toNat_natCast]
    refine ⟨fun _ => ⟨?_, fun q7 g7 ⟨F7, hp7, _⟩ => ?_⟩, fun h => absurd h23 h⟩
    · exact nt_ev (n := 9) (P := fun l => appendS.pre [_, _, .agg l.toArray] _ _) e9 hgb.1 ⟨_, _, b, nt8 gb, _, _, _, _, _, _, _, rfl, rfl, rfl, hM6, hD6, hRb, by decide, rfl, Int.le_refl _⟩
    have hp7 := nt_ev' (n := 9) (P := fun l => appendS.post [.pointer (slP (q6.i 19) (q6.i 20)), .slice (slP x2 y2) b.length c2, .agg l.toArray] [q6.h 20, q6.h 24] [R] (.int .i64 (q7.i 26)) (newHs q7 26 2) F7) e9 hgb.1 hp7
    obtain ⟨a1, a2, a3, a4⟩ := b4.append (b := b) (nt' := nt8 gb) (by simp; omega) (by omega) rfl
    obtain ⟨o1, o2⟩ := b4.out (b := b) (nt' := nt8 gb) (by simp; omega) (by omega) rfl
    obtain ⟨H7, HD7, hK7, hD7, hL7, hv7⟩ := append_post hM6 hD6 hRb hp7
    have hK7 : [q7.h 26, q7.h 27] = [H7, HD7] := hK7
    simp only [List.cons.injEq, and_true] at hK7
    obtain ⟨k1, k2⟩ := hK7
    rw [← k2] at hD7
    obtain ⟨D2, hD2e⟩ : ∃ D2, D2 = (appendR D1 ⟨10, 512, 0, 0, z16, false⟩ [] b (nt8 gb)).D := ⟨_, rfl⟩
    have c1' : (appendR D1 ⟨10, 512, 0, 0, z16, false⟩ [] b (nt8 gb)).e = 0 := a1
    have c2' : Holds D2 10 10 1 b (nt8 gb) := by rw [hD2e]; exact a2
    have c3' : D2.n = 20 := by rw [hD2e]; exact o1.trans b3
    have c4' : Holds D2 0 10 1 a (nt8 ga) := b2.keep c2'.sure (c3'.trans b3.symm) fun j h1 h2 => by rw [hD2e]; exact o2 j (Or.inl (by omega))
    rw [← hD2e] at hD7
    rw [c1'] at hv7
    have h26 : q7.i 26 = 0 := by simpa using hv7
    obtain ⟨t1, t2, t3, t4, t5⟩ := two_open c3' c4' c2' hga hgb
    have G7 : Agree 19 q3 q7 := G35.trans ((g6.trans (g7.mono (by omega))).mono (by omega))
    have ep7 : Value.pointer (slP (q7.i 14) (q7.i 15)) = .pointer (slP (q2.i 14) (q2.i 15)) := by rw [G7.i 14 (by omega), G7.i 15 (by omega), ep3]
    rw [ep7]
    refine ⟨fun h => absurd h26 h, fun _ => ⟨sopen_pre hD7 (by rw [t2]; exact hba) (by rw [t3]; exact hbb), fun q8 g8 ⟨F8, hp8, hF8, hn8⟩ => ?_⟩⟩
    obtain ⟨pv, hD8, hv8, hs8, _⟩ := sopen_post hD7 hp8
    simp only [Value.tuple.injEq, Array.mk.injEq, List.cons.injEq, Value.int.injEq, true_and, and_true] at hv8
    obtain ⟨rfl, h31⟩ := hv8
    rw [t1] at h31
    have hs8 := hs8 t1
    rw [← hF8 trivial] at hs8
    have h29 : ¬ q8.i 29 = -1 := fun h => by
      obtain ⟨_, _, _, _, _, _, _, hp, _⟩ := hs8
      rw [h, slP_nil] at hp; cases hp
    have G8 : Agree 12 ρ q8 := G6.trans ((g7.trans (g8.mono (by omega))).mono (by omega))
    obtain ⟨e0, e1, e2, e3, e4, e5, e6, e7, e8, e9, e10, e11⟩ := V q8 G8
    have X : ∀ q : Env, Agree 32 q8 q → StoreR (q.h 30) (.pointer (slP (q.i 29) (q.i 30))) (.pointer (slP (q2.i 14) (q2.i 15))) (sOpen D2) := fun q hg => by
      rw [hg.h 30 (by omega), hg.i 29 (by omega), hg.i 30 (by omega)]; exact hs8.rd
    have tl : ∀ l : List Int, l.length ≤ 300 → (takenL l).length ≤ 1000000000 ∧ ∀ r ∈ takenL l, r.length ≤ 1000000 := fun l hl => by
      obtain ⟨h1, h2⟩ := takenL_len l
      exact ⟨by omega, fun r hr => by have := h2 r hr; omega⟩
    refine ⟨fun _ => ⟨fun h => absurd h h29, fun _ => ?_⟩, fun h => absurd h31 h⟩
    rw [e8, e9]
    refine ⟨fun hlt => ?_, fun hlt => ?_⟩
    · rw [if_pos hlt] at t4 t5
      refine ⟨⟨_, _, _, _, rfl, rfl, X q8 (Agree.refl _ _), by rw [t4]; exact (tl b (by omega)).1, by rw [t4]; exact (tl b (by omega)).2⟩, fun q9 g9 ⟨F9, hp9, hF9, _⟩ => ?_⟩
      have hR9 := srec_post (X q8 (Agree.refl _ _)) hp9
      rw [← hF9 trivial, t4] at hR9
      obtain ⟨e0, e1, e2, e3, e4, e5, e6, e7, _, _, e10, _⟩ := V q9 (G8.trans (g9.mono (by omega)))
      rw [e4, e5, e6, e7, e10, Int.toNat_natCast, Int.toNat_natCast]
      refine ⟨⟨_, _, _, b, R, rfl, rfl, hRb, hy2, hc2, hbb, by omega⟩, fun q10 g10 ⟨F10, hp10, hF10, _⟩ => ?_⟩
      have hR10 := takenR_post hRb hp10
      rw [← hF10 trivial] at hR10
      have hR9' : RowsR (q10.h 32) (.slice (slP (q10.i 32) (q10.i 33)) (q10.i 34).toNat (q10.i 35).toNat) (takenL b) := by
        rw [g10.h 32 (by omega), g10.i 32 (by omega), g10.i 33 (by omega), g10.i 34 (by omega), g10.i 35 (by omega)]; exact hR9
      have G10 : Agree 32 q8 q10 := g9.trans (g10.mono (by omega))
      obtain ⟨_, _, _, _, _, _, _, _, _, _, e10, _⟩ := V q10 (G8.trans (G10.mono (by omega)))
      rw [e10]
      refine ⟨⟨_, _, _, _, _, _, _, rfl, rfl, hR9'.b, hR10, (tl b (by omega)).1⟩, fun q11 g11 ⟨F11, hp11, _⟩ => ?_⟩
      obtain ⟨z, hz, hz'⟩ := tsame_post hR9'.b hR10 hp11
      have h40 : q11.b 40 = true := by
        have h : Value.bool (bev q11 (.bvar 40)) = .bool z := hz
        rw [hz' rfl, bev_bvar] at h
        simpa using h
      have G11 : Agree 32 q8 q11 := G10.trans (g11.mono (by omega))
      refine ⟨fun _ => ⟨⟨_, _, _, _, rfl, rfl, X q11 G11⟩, fun q12 g12 ⟨F12, hp12, _⟩ => yes_out ?_⟩, fun h => absurd h40 h⟩
      have h41 := sgen_post (X q11 G11) hp12
      rw [t5] at h41
      have h41 : q12.i 41 = gb := by simpa using h41
      obtain ⟨_, _, _, _, _, _, _, _, e8, e9, _, _⟩ := V q12 (G8.trans ((G11.trans (g12.mono (by omega))).mono (by omega)))
      rw [bev_eq, iev_var, iev_var, h41, e9]; simp
    · rw [if_neg hlt] at t4 t5
      refine ⟨⟨_, _, _, _, rfl, rfl, X q8 (Agree.refl _ _), by rw [t4]; exact (tl a (by omega)).1, by rw [t4]; exact (tl a (by omega)).2⟩, fun q9 g9 ⟨F9, hp9, hF9, _⟩ => ?_⟩
      have hR9 := srec_post (X q8 (Agree.refl _ _)) hp9
      rw [← hF9 trivial, t4] at hR9
      obtain ⟨e0, e1, e2, e3, e4, e5, e6, e7, _, _, e10, _⟩ := V q9 (G8.trans (g9.mono (by omega)))
      rw [e0, e1, e2, e3, e10, Int.toNat_natCast, Int.toNat_natCast]
      refine ⟨⟨_, _, _, a, R, rfl, rfl, hRa, hy1, hc1, hba, by omega⟩, fun q10 g10 ⟨F10, hp10, hF10, _⟩ => ?_⟩
      have hR10 := takenR_post hRa hp10
      rw [← hF10 trivial] at hR10
      have hR9' : RowsR (q10.h 32) (.slice (slP (q10.i 32) (q10.i 33)) (q10.i 34).toNat (q10.i 35).toNat) (takenL a) := by
        rw [g10.h 32 (by omega), g10.i 32 (by omega), g10.i 33 (by omega), g10.i 34 (by omega), g10.i 35 (by omega)]; exact hR9
      have G10 : Agree 32 q8 q10 := g9.trans (g10.mono (by omega))
      obtain ⟨_, _, _, _, _, _, _, _, _, _, e10, _⟩ := V q10 (G8.trans (G10.mono (by omega)))
      rw [e10]
      refine ⟨⟨_, _, _, _, _, _, _, rfl, rfl, hR9'.b, hR10, (tl a (by omega)).1⟩, fun q11 g11 ⟨F11, hp11, _⟩ => ?_⟩
      obtain ⟨z, hz, hz'⟩ := tsame_post hR9'.b hR10 hp11
      have h40 : q11.b 40 = true := by
        have h : Value.bool (bev q11 (.bvar 40)) = .bool z := hz
        rw [hz' rfl, bev_bvar] at h
        simpa using h
      have G11 : Agree 32 q8 q11 := G10.trans (g11.mono (by omega))
      refine ⟨fun _ => ⟨⟨_, _, _, _, rfl, rfl, X q11 G11⟩, fun q12 g12 ⟨F12, hp12, _⟩ => yes_out ?_⟩, fun h => absurd h40 h⟩
      have h41 := sgen_post (X q11 G11) hp12
      rw [t5] at h41
      have h41 : q12.i 41 = ga := by simpa using h41
      obtain ⟨_, _, _, _, _, _, _, _, e8, e9, _, _⟩ := V q12 (G8.trans ((G11.trans (g12.mono (by omega))).mono (by omega)))
      rw [bev_eq, iev_var, iev_var, h41, e8]; simp
end Go.Proofs.YtomdimlnggpgbaaDoor
namespace Go.Proofs.YtomdimlnggpgbaaDoor
open Go Go.Sx Go.Pk Go.RowKit
def laid3 : List (String × DataW Unit) := [("jalousie/store.errLost", Rows.laid_jalousie_store_errLost), ("jalousie/store.errFull", Rows.laid_jalousie_store_errFull), ("jalousie/store.errSpent", Rows.laid_jalousie_store_errSpent)]
theorem gN0 : Tryd.prog.globalNamed "jalousie/store.errLost" = some 0 := by kernel_rfl
theorem gN1 : Tryd.prog.globalNamed "jalousie/store.errFull" = some 1 := by kernel_rfl
theorem gN2 : Tryd.prog.globalNamed "jalousie/store.errSpent" = some 2 := by kernel_rfl
theorem gT0 : (Tryd.prog.globals[0]?).map (·.type) = some 74 := by kernel_rfl
theorem gT1 : (Tryd.prog.globals[1]?).map (·.type) = some 74 := by kernel_rfl
theorem gT2 : (Tryd.prog.globals[2]?).map (·.type) = some 74 := by kernel_rfl
theorem gCells : Tryd.prog.cellsOf 232 = 1 := by kernel_rfl
theorem gCellsS : Tryd.prog.cellsOf 9 = 1 := by kernel_rfl
theorem gStar : "*" ++ "errors.errorString" = "*errors.errorString" := by decide
theorem gRow (u : TypeId) (h : Tryd.prog.typeName? 3 u = some "*errors.errorString") : u = 206 :=
  typeName_ptr_named (nm := "errors.errorString") (by rw [gStar]; kernel_rfl) (by kernel_rfl) (by decide) u (by rw [gStar]; exact h)
set_option maxRecDepth 100000 in
theorem gl_of_laid {W : World} (h : laidMetH Tryd.prog laid3 W) : ∃ a, Gl (Hl.all W) a := by
  rw [MakeChecks.laidMetH_plain _ _ _ (by kernel_rfl)] at h
  obtain ⟨ps, ⟨g0, t0, cs0, f0, p0, q0, hg0, ht0, hv0, hd0, ⟨g1, t1, cs1, f1, p1, q1, hg1, ht1, hv1, hd1, ⟨g2, t2, cs2, f2, p2, q2, hg2, ht2, hv2, hd2, _, e2⟩, e1⟩, e0⟩, hnd, hrows⟩ := h
  obtain rfl := Option.some.inj (gN0.symm.trans hg0)
  obtain rfl := Option.some.inj (gN1.symm.trans hg1)
  obtain rfl := Option.some.inj (gN2.symm.trans hg2)
  obtain rfl := Option.some.inj (gT0.symm.trans ht0)
  obtain rfl := Option.some.inj (gT1.symm.trans ht1)
  obtain rfl := Option.some.inj (gT2.symm.trans ht2)
  subst e2
  subst e1
  subst e0
  obtain ⟨l0⟩ := cs0
  obtain ⟨l1⟩ := cs1
  obtain ⟨l2⟩ := cs2
  have ok0 : ∀ u v, l0 = [.iface u v] → Value.okWide Tryd.prog W .any 0 u v := fun u v e => by
    subst e
    exact (hrows 0 0 (by simp [MemPlace.row])).2 u v (by simpa using World.var?_cell hg0 hv0 0)
  have ok1 : ∀ u v, l1 = [.iface u v] → Value.okWide Tryd.prog W .any 0 u v := fun u v e => by
    subst e
    exact (hrows 1 0 (by simp [MemPlace.row])).2 u v (by simpa using World.var?_cell hg1 hv1 0)
  have ok2 : ∀ u v, l2 = [.iface u v] → Value.okWide Tryd.prog W .any 0 u v := fun u v e => by
    subst e
    exact (hrows 2 0 (by simp [MemPlace.row])).2 u v (by simpa using World.var?_cell hg2 hv2 0)
  obtain ⟨a0, s0, rfl, hc0, hs0, hz0, rfl⟩ := errorString_of_trod Tryd.underlying74 gRow Tryd.underlying206 Tryd.underlying232 rfl rfl Tryd.underlying9 gCells gCellsS hd0 ok0
  obtain ⟨a1, s1, rfl, hc1, hs1, hz1, rfl⟩ := errorString_of_trod Tryd.underlying74 gRow Tryd.underlying206 Tryd.underlying232 rfl rfl Tryd.underlying9 gCells gCellsS hd1 ok1
  obtain ⟨a2, s2, rfl, hc2, hs2, hz2, rfl⟩ := errorString_of_trod Tryd.underlying74 gRow Tryd.underlying206 Tryd.underlying232 rfl rfl Tryd.underlying9 gCells gCellsS hd2 ok2
  obtain ⟨b0, y0, hb0⟩ := (hrows a0.block a0.off (by simp [MemPlace.row])).1
  obtain ⟨b1, y1, hb1⟩ := (hrows a1.block a1.off (by simp [MemPlace.row])).1
  obtain ⟨b2, y2, hb2⟩ := (hrows a2.block a2.off (by simp [MemPlace.row])).1
  have n01 : a0 ≠ a1 := by rintro rfl; simp [MemPlace.row] at hnd
  have n02 : a0 ≠ a2 := by rintro rfl; simp [MemPlace.row] at hnd
  have n12 : a1 ≠ a2 := by rintro rfl; simp [MemPlace.row] at hnd
  have cell : ∀ {g : Nat} {v : Value}, W.cell? ⟨g, 0, none⟩ = some v → (Hl.all W).cell g 0 = some v := by
    intro g v h
    unfold World.cell? at h
    unfold Hl.cell Hl.all
    cases hh : W.heap[g]? with
    | none => simp [hh] at h
    | some o => cases o <;> simp_all
  have c0 := cell (World.var?_cell hg0 hv0 0)
  have c1 := cell (World.var?_cell hg1 hv1 0)
  have c2 := cell (World.var?_cell hg2 hv2 0)
  refine ⟨fun g => if g = gLost then a0 else if g = gFull then a1 else a2, fun g hg => ?_, fun g hg => ?_, fun g h hg hh hne => ?_⟩
  · rcases hg with rfl | rfl | rfl
    · exact c0
    · exact c1
    · exact c2
  · rcases hg with rfl | rfl | rfl
    · exact ⟨b0, y0, hb0⟩
    · exact ⟨b1, y1, hb1⟩
    · exact ⟨b2, y2, hb2⟩
  · rcases hg with rfl | rfl | rfl <;> rcases hh with rfl | rfl | rfl
    · exact absurd rfl hne
    · exact n01
    · exact n02
    · exact fun e => n01 e.symm
    · exact absurd rfl hne
    · exact n12
    · exact fun e => n02 e.symm
    · exact fun e => n12 e.symm
    · exact absurd rfl hne
theorem door_met (os : Os) (args : Array Value) : laidMetH Tryd.prog laid3 ((World.doorLaid Tryd.prog 400 os).forCall (fun _ _ => 0) ⟨#[], args, []⟩).memory :=
  laidMetH_of_parts3 (fuel := 8) (laidMet_of_run' 8 (by kernel_rfl) (by kernel_rfl)) (by kernel_rfl) (by kernel_rfl)
end Go.Proofs.YtomdimlnggpgbaaDoor
namespace Go.Sx
open Go Go.ChangeShapes Go.WideShapes Go.ChangeAt Go.RowKit Go.Deep
def okC (v : Value) : Kd → Prop
  | .int k => ∃ n, v = .int k n ∧ (Lit.int k n).wf = true
  | .bool => ∃ b, v = .bool b
  | _ => False
def okCs : List Value → List Kd → Prop
  | [], [] => True
  | v :: l, k :: m => okC v k ∧ okCs l m
  | _, _ => False
theorem okCs_append : ∀ {l m : List Value} {a b : List Kd}, okCs l a → okCs m b → okCs (l ++ m) (a ++ b)
  | [], m, [], b, _, h => h
  | v :: l, m, k :: a, b, h, h2 => ⟨h.1, okCs_append h.2 h2⟩
  | [], _, _ :: _, _, h, _ => h.elim
  | _ :: _, _, [], _, h, _ => h.elim
theorem okCs_get : ∀ {l : List Value} {a : List Kd}, okCs l a → ∀ (j : Nat) (k : Kd), a[j]? = some k → ∃ v, l[j]? = some v ∧ okC v k
  | _ :: l, _ :: a, h, 0, k, hk => by simp at hk; subst hk; exact ⟨_, rfl, h.1⟩
  | _ :: l, _ :: a, h, j + 1, k, hk => by simpa using okCs_get h.2 j k (by simpa using hk)
  | [], [], _, j, k, hk => by simp at hk
  | [], _ :: _, h, _, _, _ => h.elim
  | _ :: _, [], h, _, _, _ => h.elim
def fieldsK (f : TypeId → Option (List Kd)) : List Field → Nat → Option (List Kd)
  | [], _ => some []
  | fl :: l, o => if fl.offset = o then match f fl.type with
    | some a => match fieldsK f l (o + a.length) with
      | some b => some (a ++ b)
      | none => none
    | none => none
    else none
def repK (a : List Kd) : Nat → List Kd
  | 0 => []
  | n + 1 => a ++ repK a n
def kindsT (P : Program) : Nat → TypeId → Option (List Kd)
  | 0, _ => none
  | d + 1, t => match P.underlying t with
    | some (.int k) => some [.int k]
    | some .bool => some [.bool]
    | some (.array n e) => match kindsT P d e with
      | some a => if a.length = P.cellsOf e ∧ P.cellsOf t = n * a.length then some (repK a n) else none
      | none => none
    | some (.struct fs) => match fieldsK (fun u => (kindsT P d u).bind fun a => if a.length = P.cellsOf u then some a else none) fs.toList 0 with
      | some a => if a.length = P.cellsOf t then some a else none
      | none => none
    | _ => none
section
variable {H : Type} {enc : TypeId × Value → H} {P : Program} {w : World} {base : Nat} {spare : Nat → Bool} {held : Bool}
theorem trod_fields {g : TypeId → Option (List Kd)} {cs : List Value} : ∀ (l : List Field) (o : Nat) (ks : List Kd), fieldsK g l o = some ks →
    (∀ (fl : Field) (a : List Kd), fl ∈ l → g fl.type = some a → okCs ((cs.drop fl.offset).take a.length) a) → okCs ((cs.drop o).take ks.length) ks
  | [], o, ks, h, _ => by cases h; simp [okCs]
  | fl :: l, o, ks, h, hq => by
    simp only [fieldsK] at h
    split at h
    · rename_i ho; subst ho
      split at h
      · rename_i a ha
        split at h
        · rename_i b hb
          cases h
          have h1 := hq fl a (by simp) ha
          have h2 := trod_fields l (fl.offset + a.length) b hb fun f c hf hc => hq f c (List.mem_cons_of_mem _ hf) hc
          have e : (cs.drop fl.offset).take (a ++ b).length = (cs.drop fl.offset).take a.length ++ (cs.drop (fl.offset + a.length)).take b.length := by
            rw [List.length_append, List.take_add, List.drop_drop]
          rw [e]
          exact okCs_append h1 h2
        · cases h
      · cases h
    · cases h
theorem trod_reps {cs : List Value} {a : List Kd} : ∀ (n : Nat) (o : Nat), (∀ i, i < n → okCs ((cs.drop (o + i * a.length)).take a.length) a) → okCs ((cs.drop o).take (n * a.length)) (repK a n)
  | 0, o, _ => by simp [okCs, repK]
  | n + 1, o, h => by
    have h0 := h 0 (by omega)
    simp only [Nat.zero_mul, Nat.add_zero] at h0
    have ih := trod_reps n (o + a.length) fun i hi => by
      have := h (i + 1) (by omega)
      rwa [Nat.add_mul, Nat.one_mul, Nat.add_comm (i * a.length), ← Nat.add_assoc] at this
    have e : (cs.drop o).take ((n + 1) * a.length) = (cs.drop o).take a.length ++ (cs.drop (o + a.length)).take (n * a.length) := by
      rw [Nat.add_mul, Nat.one_mul, Nat.add_comm (n * a.length), List.take_add, List.drop_drop]
    rw [e]
    exact okCs_append h0 ih
theorem trod_kinds : ∀ (d : Nat) (t : TypeId) (ks : List Kd) (fuel : Nat) (cs : List Value) (x : DataW H × List MemPlace), kindsT P d t = some ks → DataW.trod enc P w base spare held fuel t cs = some x → okCs cs ks := by
  intro d
  induction d with
  | zero => intro t ks fuel cs x h; cases h
  | succ d ih =>
    intro t ks fuel cs x h hx
    simp only [kindsT] at h
    split at h
    · rename_i k hu
      cases h
      obtain ⟨n, rfl, _, hw⟩ := DataW.trod_int hu hx
      exact ⟨⟨n, rfl, hw⟩, trivial⟩
    · rename_i hu
      cases h
      obtain ⟨b, rfl, _⟩ := DataW.trod_bool hu hx
      exact ⟨⟨b, rfl⟩, trivial⟩
    · rename_i n e hu
      split at h
      · rename_i a ha
        split at h
        · rename_i hc
          cases h
          obtain ⟨xs, m, _, _, hl, hxl, hxi⟩ := DataW.trod_array hu hx
          have key := trod_reps (cs := cs) (a := a) n 0 fun i hi => by
            have h1 := hxi i hi
            rw [← hc.1, List.getElem?_eq_getElem (by omega)] at h1
            rw [Nat.zero_add]
            exact ih e a m _ _ ha h1
          rw [List.drop_zero, ← hc.2, ← hl, List.take_length] at key
          exact key
        · cases h
      · cases h
    · rename_i fs hu
      split at h
      · rename_i a ha
        split at h
        · rename_i hc
          cases h
          obtain ⟨xs, m, _, _, hl, hxl, hxi⟩ := DataW.trod_struct hu hx
          have key := trod_fields (cs := cs) fs.toList 0 ks ha fun fl b hfl hb => by
            obtain ⟨i, hi⟩ := List.getElem?_of_mem hfl
            have hi' : fs[i]? = some fl := by simpa using hi
            have h1 := hxi i fl hi'
            cases hk : kindsT P d fl.type with
            | none => simp [hk] at hb
            | some b' =>
              simp only [hk, Option.bind_some] at hb
              split at hb
              · rename_i hlen
                cases hb
                have hlt : i < xs.length := by rw [hxl]; exact (Array.getElem?_eq_some_iff.1 hi').1
                rw [← hlen, List.getElem?_eq_getElem hlt] at h1
                exact ih fl.type b m _ _ hk h1
              · cases hb
          rw [List.drop_zero, hc, ← hl, List.take_length] at key
          exact key
        · cases h
      · cases h
    · cases h
theorem open_rows {t e : TypeId} {ks : List Kd} {dp : Nat} {fuel : Nat} {cs : List Value} {x : DataW H × List MemPlace} (ht : P.underlying t = some (.slice e)) (hk : kindsT P dp e = some ks) (hC : P.cellsOf e = ks.length)
    (h : DataW.trod enc P w base spare held fuel t cs = some x) :
    cs = [.slice none 0 0] ∨ ∃ (a : Addr) (len cap : Nat), cs = [.slice (some a) len cap] ∧ len ≤ cap ∧ cap ≤ maxLen ∧
      ∀ i, i < len → ∀ (j : Nat) (k : Kd), ks[j]? = some k → ∃ v, w.cell? (a.add (i * ks.length + j)) = some v ∧ okC v k := by
  rcases open_slice ht h with h0 | ⟨a, len, cap, m, n, D, Pl, hcs, hb, hl, hm, hmm, hx, hi⟩
  · exact Or.inl h0.1
  · refine Or.inr ⟨a, len, cap, hcs, hl, hm, fun i hil j k hj => ?_⟩
    have him : i < m := by rw [hmm]; split <;> omega
    obtain ⟨cs', hc, ht'⟩ := hi i him
    rw [hC] at hc
    obtain ⟨_, hcl, hat⟩ := World.cells?_some hc
    have hok := trod_kinds dp e ks n cs' _ hk ht'
    obtain ⟨v, hv, hov⟩ := okCs_get hok j k hj
    have hjl : j < ks.length := (List.getElem?_eq_some_iff.1 hj).1
    refine ⟨v, ?_, hov⟩
    rw [← Go.Deep.add_add, hat j hjl, hv]
end
end Go.Sx
namespace Go.Sx
open Go Go.ChangeShapes Go.WideShapes Go.ChangeAt Go.RowKit Go.Deep
theorem u64_wf {n : Int} (h : (Lit.int .u64 n).wf = true) : 0 ≤ n ∧ n < 18446744073709551616 := by
  simp only [Lit.wf, IntKind.min, IntKind.max, IntKind.signed, IntKind.bits, Bool.and_eq_true, decide_eq_true_eq] at h
  simp at h
  omega
theorem u8_wf {n : Int} (h : (Lit.int .u8 n).wf = true) : 0 ≤ n ∧ n < 256 := by
  simp only [Lit.wf, IntKind.min, IntKind.max, IntKind.signed, IntKind.bits, Bool.and_eq_true, decide_eq_true_eq] at h
  simp at h
  omega
section
variable {H : Type} {enc : TypeId × Value → H} {P : Program} {W : World} {base : Nat} {spare : Nat → Bool} {held : Bool} {d : DataW H} {p : List MemPlace}
theorem all_cell {b y : Nat} {v : Value} (h : W.cell? ⟨b, y, none⟩ = some v) : (Hl.all W).cell b y = some v := by
  unfold Hl.cell Hl.all
  unfold World.cell? at h
  split at h
  · rename_i c T fr hb
    rw [hb]
    simpa using h
  · cases h
theorem cell_spot {a : Addr} {v : Value} (hv : W.cell? a = some v) : a.spot = none := by
  unfold World.cell? at hv
  split at hv
  · split at hv
    · cases hv
    · rename_i h; simpa using h
  · cases hv
end
theorem spec_yes {P : Program} {s : Spec} (h : s.OK P) (ho : s.own = []) {W : World} {xs : List Value} (hpre : s.pre xs [] (List.replicate s.rd.length (Hl.all W)))
    (hpost : ∀ ρ F, s.post xs [] (List.replicate s.rd.length (Hl.all W)) ((cpTV 0 s.res).ev ρ) [] F → (cpTV 0 s.res).ev ρ = .bool true) :
    Calls P s.fn xs.toArray W fun e w' => e = .returned (.bool true) ∧ Below W.heap.size W w' := by
  have := h W xs [] (List.replicate s.rd.length (Hl.all W)) (by rw [ho]; rfl) (by simp) (fun _ h => nomatch h) (fun R hR => by rw [(List.mem_replicate.1 hR).2]; exact Hl.all_sub W) (fun p _ H _ _ h => by simp at h) (fun _ h => nomatch h) hpre
  refine this.mono ?_
  rintro e w' ⟨ρ, Hs', F, rfl, _, ht, hp⟩
  have e0 : Hs' = [] := List.length_eq_zero_iff.1 ht.len
  subst e0
  exact ⟨by rw [hpost ρ F hp], ⟨ht.os, ht.tape, ht.output, ht.size, fun b hb => ht.block b hb (fun _ h => nomatch h)⟩⟩
end Go.Sx
namespace Go.Sx
open Go Go.ChangeShapes Go.WideShapes Go.ChangeAt Go.RowKit Go.Deep
section
variable {H : Type} {enc : TypeId × Value → H} {P : Program} {W : World} {base : Nat} {spare : Nat → Bool} {held : Bool} {d : DataW H} {p : List MemPlace}
theorem bytes_of {t e : TypeId} {dp : Nat} (ht : P.underlying t = some (.slice e)) (hk : kindsT P dp e = some [.int .u8]) (hC : P.cellsOf e = 1) {v : Value} (hv : ∃ a l c, v = .slice a l c) (h : DataW.Trod enc P W base spare held t v d p) :
    ∃ bs, RdW (Hl.all W) v bs ∧ ∀ b ∈ bs, 0 ≤ b ∧ b < 256 := by
  obtain ⟨a0, len0, cap0, rfl⟩ := hv
  obtain ⟨fuel, hf⟩ := h
  rcases open_rows ht hk hC hf with h | ⟨a, len, cap, hcs, hl, hc, hat⟩
  · simp only [Value.cells, List.cons.injEq, Value.slice.injEq, and_true] at h
    obtain ⟨rfl, rfl, rfl⟩ := h
    exact ⟨[], ⟨-1, 0, 0, rfl, by omega, Or.inl rfl⟩, fun _ h => nomatch h⟩
  · simp only [Value.cells, List.cons.injEq, Value.slice.injEq, and_true] at hcs
    obtain ⟨rfl, rfl, rfl⟩ := hcs
    rcases Nat.eq_zero_or_pos len0 with h0 | h0
    · subst h0
      obtain ⟨x, y, hx, hy, _⟩ := slP_all (some a)
      exact ⟨[], ⟨x, y, cap0, by rw [hx]; rfl, hy, Or.inl rfl⟩, fun _ h => nomatch h⟩
    · have hcell : ∀ i, i < len0 → ∃ n, W.cell? (a.add i) = some (.int .u8 n) ∧ 0 ≤ n ∧ n < 256 := by
        intro i hi
        obtain ⟨v, hv, ho⟩ := hat i hi 0 _ rfl
        obtain ⟨n, rfl, hw⟩ := ho
        refine ⟨n, ?_, u8_wf hw⟩
        rw [show i = i * ([Kd.int .u8] : List Kd).length + 0 by simp]; exact hv
      have hsp : a.spot = none := by
        obtain ⟨n, hn, _⟩ := hcell 0 h0
        simp only [Addr.add, if_true, Nat.add_zero] at hn
        exact cell_spot hn
      obtain ⟨blk, off, spot⟩ := a
      simp only at hsp
      subst hsp
      have hget : ∀ j z, ((List.range len0).map fun i => valI (W.cell? ⟨blk, off + i, none⟩))[j]? = some z → W.cell? ⟨blk, off + j, none⟩ = some (.int .u8 z) ∧ 0 ≤ z ∧ z < 256 := by
        intro j z hz
        have hj : j < len0 := by have := (List.getElem?_eq_some_iff.1 hz).1; simpa using this
        rw [List.getElem?_map, List.getElem?_range hj] at hz
        simp only [Option.map_some, Option.some.injEq] at hz
        obtain ⟨n, hn, hr⟩ := hcell j hj
        rw [addr_add] at hn
        rw [hn] at hz
        have hz : n = z := hz
        subst hz
        exact ⟨hn, hr⟩
      refine ⟨(List.range len0).map fun i => valI (W.cell? ⟨blk, off + i, none⟩), ⟨blk, off, cap0, ?_, by omega, Or.inr ⟨by omega, fun j z hz => ?_⟩⟩, fun b hb => ?_⟩
      · rw [slP_pos (by omega), List.length_map, List.length_range]; rfl
      · simp only [Int.toNat_natCast]
        exact all_cell (hget j z hz).1
      · obtain ⟨j, hj⟩ := List.mem_iff_getElem?.1 hb
        exact (hget j b hj).2
end
end Go.Sx
