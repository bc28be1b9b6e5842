/- Layer 9: the reference's Same, as a contract. No condition. -/
import Derived.Test.YtomdimlnggpgbaaDoorStJ
set_option linter.unusedSimpArgs false
set_option linter.unusedVariables false
set_option linter.constructorNameAsVariable false
namespace Go.Proofs.YtomdimlnggpgbaaDoor
open Go Go.Sx Go.Pk
open Go.Proofs.YtomdimlnggpgbaaDoor.D hiding envI noLoops numS

theorem RowsR.b {F : Hl} {v : Value} {rows : List (List Int)} (h : RowsR F v rows) : RowsB F F v rows := by
  obtain ⟨rx, rc, hrx, rfl⟩ := h.rep
  obtain ⟨us, ho, hr⟩ := id h
  have hul := RowsR.len ho
  refine ⟨us, rx, 0, rc, by rw [hul], Int.le_refl _, hul, fun j u hu => ?_, fun j u r hu hrr => (hr j u r hu hrr).rd⟩
  have hj : j < rows.length := by have := (List.getElem?_eq_some_iff.1 hu).1; omega
  have := OwnsH.cellAt (l := (rows.length : Int)) (c := (rc : Int)) (by rw [Int.toNat_natCast, Int.toNat_natCast]; exact ho) hrx hj
  exact ⟨this.1, by rw [Int.toNat_zero, Nat.zero_add, this.2, hu]⟩
def rsameS : Sx.Spec where
  fn := 12
  own := []
  rd := [0, 1]
  res := [.one .bool]
  pre := fun xs Hs Rs => ∃ a b R1 R2 ra rb, xs = [a, b] ∧ Rs = [R1, R2] ∧ RowsB R1 R1 a ra ∧ RowsB R2 R2 b rb ∧ ra.length ≤ 1000000000
  post := fun xs Hs Rs v Hs' F => ∃ a b R1 R2 ra rb z, xs = [a, b] ∧ Rs = [R1, R2] ∧ RowsB R1 R1 a ra ∧ RowsB R2 R2 b rb ∧ v = .bool z ∧ (ra = rb → z = true)
theorem rsame_post {a b v : Value} {R1 R2 F : Hl} {K : List Hl} {ra rb : List (List Int)} (h1 : RowsB R1 R1 a ra) (h2 : RowsB R2 R2 b rb) (hp : rsameS.post [a, b] [] [R1, R2] v K F) : ∃ z, v = .bool z ∧ (ra = rb → z = true) := by
  obtain ⟨a', b', R1', R2', ra', rb', z, e1, e2, h1', h2', hv, hz⟩ := hp
  simp only [List.cons.injEq, and_true] at e1 e2
  obtain ⟨e1, e3⟩ := e1
  obtain ⟨e2, e4⟩ := e2
  subst e1 e2 e3 e4
  obtain rfl := h1.uniq h1'
  obtain rfl := h2.uniq h2'
  exact ⟨z, hv, hz⟩
def rsameNd : Nd := .and (.e (.le (.lit 0) (.var 2))) (.and (.e (.le (.lit 0) (.var 6))) (.and (.imp (.not (.eq (.var 2) (.var 6))) (.post [.ro 8 [.var 0] true, .ro 9 [.var 4] true] (.sv (.one (.bool .ff))))) (.imp (.eq (.var 2) (.var 6)) (.and (.inv 0 [⟨50, 0, .int .i64 (.lit 0)⟩] []) (.havoc 0 0 10 (.and (.imp (.lt (.var 50) (.var 2)) (.and (.e (.le (.lit 0) (.var 0))) (.and (.e (.le (.lit 0) (.var 1))) (.and (.e (.le (.lit 0) (.var 50))) (.and (.e (.his 8 (.var 0) (.add (.var 1) (.var 50)) 0 .slice)) (.and (.e (.or (.eq (.hP 8 (.var 0) (.add (.var 1) (.var 50)) 0 0) (.lit (-1))) (.or (.eq (.hP 8 (.var 0) (.add (.var 1) (.var 50)) 0 2) (.lit 0)) (.and (.le (.lit 0) (.hP 8 (.var 0) (.add (.var 1) (.var 50)) 0 0)) (.and (.le (.lit 0) (.hP 8 (.var 0) (.add (.var 1) (.var 50)) 0 1)) (.hby 8 (.hP 8 (.var 0) (.add (.var 1) (.var 50)) 0 0) (.hP 8 (.var 0) (.add (.var 1) (.var 50)) 0 1) (.hP 8 (.var 0) (.add (.var 1) (.var 50)) 0 2))))))) (.and (.e (.le (.lit 0) (.var 4))) (.and (.e (.le (.lit 0) (.var 5))) (.and (.e (.lt (.var 50) (.var 6))) (.and (.e (.his 9 (.var 4) (.add (.var 5) (.var 50)) 0 .slice)) (.and (.e (.or (.eq (.hP 9 (.var 4) (.add (.var 5) (.var 50)) 0 0) (.lit (-1))) (.or (.eq (.hP 9 (.var 4) (.add (.var 5) (.var 50)) 0 2) (.lit 0)) (.and (.le (.lit 0) (.hP 9 (.var 4) (.add (.var 5) (.var 50)) 0 0)) (.and (.le (.lit 0) (.hP 9 (.var 4) (.add (.var 5) (.var 50)) 0 1)) (.hby 9 (.hP 9 (.var 4) (.add (.var 5) (.var 50)) 0 0) (.hP 9 (.var 4) (.add (.var 5) (.var 50)) 0 1) (.hP 9 (.var 4) (.add (.var 5) (.var 50)) 0 2))))))) (.and (.imp (.not (.seq (.ite (.eq (.hP 8 (.var 0) (.add (.var 1) (.var 50)) 0 0) (.lit (-1))) (.slit ⟨#[]⟩) (.sof 8 (.hP 8 (.var 0) (.add (.var 1) (.var 50)) 0 0) (.hP 8 (.var 0) (.add (.var 1) (.var 50)) 0 1) (.hP 8 (.var 0) (.add (.var 1) (.var 50)) 0 2))) (.ite (.eq (.hP 9 (.var 4) (.add (.var 5) (.var 50)) 0 0) (.lit (-1))) (.slit ⟨#[]⟩) (.sof 9 (.hP 9 (.var 4) (.add (.var 5) (.var 50)) 0 0) (.hP 9 (.var 4) (.add (.var 5) (.var 50)) 0 1) (.hP 9 (.var 4) (.add (.var 5) (.var 50)) 0 2))))) (.post [.ro 8 [.var 0] true, .ro 9 [.var 4] true] (.sv (.one (.bool .ff))))) (.imp (.seq (.ite (.eq (.hP 8 (.var 0) (.add (.var 1) (.var 50)) 0 0) (.lit (-1))) (.slit ⟨#[]⟩) (.sof 8 (.hP 8 (.var 0) (.add (.var 1) (.var 50)) 0 0) (.hP 8 (.var 0) (.add (.var 1) (.var 50)) 0 1) (.hP 8 (.var 0) (.add (.var 1) (.var 50)) 0 2))) (.ite (.eq (.hP 9 (.var 4) (.add (.var 5) (.var 50)) 0 0) (.lit (-1))) (.slit ⟨#[]⟩) (.sof 9 (.hP 9 (.var 4) (.add (.var 5) (.var 50)) 0 0) (.hP 9 (.var 4) (.add (.var 5) (.var 50)) 0 1) (.hP 9 (.var 4) (.add (.var 5) (.var 50)) 0 2)))) (.back 0 0 [⟨50, 0, .int .i64 (.wrap .i64 (.add (.var 50) (.lit 1)))⟩] [])))))))))))))) (.imp (.not (.lt (.var 50) (.var 2))) (.post [.ro 8 [.var 0] true, .ro 9 [.var 4] true] (.sv (.one (.bool .tt)))))))))))
def rsameW : Walk Tryd.prog [] rsameS.fn where
  Λ := fun p => if lp0 p then some ⟨0, [(5, TI .i64 (.var 50))], [], 60⟩ else none
  args := [.sv (.one (.sl (.var 0) (.var 1) (.var 2) (.var 3))), .sv (.one (.sl (.var 4) (.var 5) (.var 6) (.var 7)))]
  mem := [.ro 8 [.var 0] true, .ro 9 [.var 4] true]
  nv := 10
  nd := rsameNd
  ok := by kernel_rfl
theorem rsameS_ok : rsameS.OK Tryd.prog := by
  refine Spec.of_fn (Γ := []) (fun _ h => by cases h) ?_
  rintro xs Hs Rs hl1 hl2 ⟨a, b, R1, R2, ra, rb, rfl, rfl, h1, h2, hlen⟩
  have e0 : Hs = [] := List.length_eq_zero_iff.1 hl1
  subst e0
  obtain ⟨us, x, y, c, rfl, hy, hul, hcell, hrd⟩ := id h1
  obtain ⟨us2, x2, y2, c2, rfl, hy2, hul2, hcell2, hrd2⟩ := id h2
  refine ⟨rsameW, envI [x, y, us.length, c, x2, y2, us2.length, c2] false [Hl.none, Hl.none, Hl.none, Hl.none, Hl.none, Hl.none, Hl.none, Hl.none, R1, R2], fun _ q => ∃ k : Nat, q.i 50 = k ∧ k ≤ ra.length, fun _ q => (ra.length - q.i 50).toNat, ?_, ⟨?_, ?_, ?_, ?_⟩, (fun _ h => nomatch h), ?_⟩
  · show [Value.slice (slP x y) ((us.length : Int)).toNat ((c : Int)).toNat, Value.slice (slP x2 y2) ((us2.length : Int)).toNat ((c2 : Int)).toNat] = _
    simp only [Int.toNat_natCast]
  · intro r hr ho; simp [rsameW] at hr; rcases hr with rfl | rfl <;> cases ho
  · intro r hr ho; simp [rsameW] at hr
    rcases hr with rfl | rfl
    · exact ⟨R1, by simp, Hl.le_refl _⟩
    · exact ⟨R2, by simp, Hl.le_refl _⟩
  · simp [rsameW, Res.own]
  · intro r hr; simp [rsameW] at hr; rcases hr with rfl | rfl <;> trivial
  · show Nd.holds _ _ _ rsameNd
    generalize hρ : envI [x, y, us.length, c, x2, y2, us2.length, c2] false [Hl.none, Hl.none, Hl.none, Hl.none, Hl.none, Hl.none, Hl.none, Hl.none, R1, R2] = ρ
    have v0 : ρ.i 0 = x := by rw [← hρ]; rfl
    have v1 : ρ.i 1 = y := by rw [← hρ]; rfl
    have v2 : ρ.i 2 = us.length := by rw [← hρ]; rfl
    have v4 : ρ.i 4 = x2 := by rw [← hρ]; rfl
    have v5 : ρ.i 5 = y2 := by rw [← hρ]; rfl
    have v6 : ρ.i 6 = us2.length := by rw [← hρ]; rfl
    have w8 : ρ.h 8 = R1 := by rw [← hρ]; rfl
    have w9 : ρ.h 9 = R2 := by rw [← hρ]; rfl
    clear hρ
    have out : ∀ (q : Env) (mem : Mem) (e : E), (ra = rb → bev q e = true) → postOf rsameS [.slice (slP x y) us.length c, .slice (slP x2 y2) us2.length c2] [] [R1, R2] q mem (.sv (.one (.bool e))) := by
      intro q mem e he _
      exact ⟨[], [], rfl, rfl, ⟨⟨fun _ => 0, fun _ => bev q e, fun _ => .empty, fun _ => .tuple #[], fun _ => Hl.none⟩, rfl, trivial, trivial⟩, _, _, R1, R2, ra, rb, bev q e, rfl, rfl, h1, h2, rfl, he⟩
    unfold rsameNd
    simp only [Nd.holds, X.pre, X.rel, X.n, Src.ok, Src.len, Src.vals, true_and, and_true, if_true, Nat.mul_one, Nat.add_zero, Nat.reduceAdd, List.length_cons, List.length_nil, bT_tt, bT_ff, bT_bvar, bT_not, bT_and, bT_or, bT_ite, bT_lt, bT_le, bT_eq, bT_beq, bT_seq, bT_hB, bT_his, bT_hby, bT_hism, bT_hks, iev_lit, iev_var, iev_add, iev_sub, iev_mul, iev_wrap, iev_ite, iev_hI, iev_hP, iev_hmlen, sev_ite, sev_slit, sev_sof, sev_svar, TV.ev, SV.ev, CV.ev, List.map_cons, List.map_nil, Res.hl]
    rw [v2, v6]
    refine ⟨by omega, by omega, fun hne => out _ _ _ fun h => absurd (by rw [hul, hul2, h]) hne, fun heq => ⟨⟨0, rfl, Nat.zero_le _⟩, fun q g ⟨k, ek, hk⟩ => ?_⟩⟩
    rw [g.i 0 (by omega), g.i 1 (by omega), g.i 2 (by omega), g.i 4 (by omega), g.i 5 (by omega), g.i 6 (by omega), g.h 8 (by omega), g.h 9 (by omega), v0, v1, v2, v4, v5, v6, w8, w9, ek]
    refine ⟨fun hlt => ?_, fun hge => out _ _ _ fun _ => bev_tt _⟩
    have hk1 : k < ra.length := by omega
    have hk2 : k < rb.length := by omega
    have hu : us[k]? = some us[k] := List.getElem?_eq_getElem (by omega)
    have hu2 : us2[k]? = some us2[k] := List.getElem?_eq_getElem (by omega)
    obtain ⟨hx0, hc⟩ := hcell k _ hu
    obtain ⟨hx2, hc2⟩ := hcell2 k _ hu2
    have r1 := hrd k _ _ hu (List.getElem?_eq_getElem hk1)
    have r2 := hrd2 k _ _ hu2 (List.getElem?_eq_getElem hk2)
    obtain ⟨⟨_, _, _, s1⟩, _, t1, q1⟩ := RdW.parts r1
    obtain ⟨⟨_, _, _, s2⟩, _, t2, q2⟩ := RdW.parts r2
    have hck : R1.cell x.toNat (y + (k : Int)).toNat = some us[k] := by rw [show (y + (k : Int)).toNat = y.toNat + k by omega]; exact hc
    have hck2 : R2.cell x2.toNat (y2 + (k : Int)).toNat = some us2[k] := by rw [show (y2 + (k : Int)).toNat = y2.toNat + k by omega]; exact hc2
    rw [hck, hck2]
    refine ⟨hx0, hy, by omega, by rw [s1]; rfl, t1, hx2, hy2, by omega, by rw [s2]; rfl, t2, fun hne => out _ _ _ fun h => ?_, fun _ => ⟨⟨k + 1, ?_, by omega⟩, ?_⟩⟩
    · have e : ra[k] = rb[k] := by
        have := congrArg (fun l => l[k]?) h
        rw [List.getElem?_eq_getElem hk1, List.getElem?_eq_getElem hk2] at this
        exact Option.some.inj this
      exact absurd (q1.trans ((congrArg bytesOf e).trans q2.symm)) hne
    · show IntKind.i64.wrap (q.i 50 + 1) = _
      rw [ek]; exact wrap_i64 (by omega) (by omega)
    · show ((ra.length : Int) - IntKind.i64.wrap (q.i 50 + 1)).toNat < _
      rw [ek, wrap_i64 (by omega) (by omega)]; omega
end Go.Proofs.YtomdimlnggpgbaaDoor
