/- Headers: entry.Same of headers that tell the same, as a contract. -/
import Derived.Test.YtnlejejjeilpoaaVfI
set_option linter.unusedSimpArgs false
set_option linter.unusedVariables false
set_option linter.constructorNameAsVariable false
namespace Go.Proofs.Ytnlejejjeilpoaa.V2
open Go Go.Sx

def eqtS : Sx.Spec where
  fn := 29
  own := []
  rd := [0, 1]
  res := [.one .bool]
  pre := fun xs Hs Rs => ∃ (u1 u2 : Value) (R1 R2 : Hl) (T : List (List Int)), xs = [u1, u2] ∧ Rs = [R1, R2] ∧ RdRows R1 u1 tkd (T.map bys) ∧ RdRows R2 u2 tkd (T.map bys) ∧ (∀ t ∈ T, t.length = 16) ∧ T.length ≤ 20
  post := fun xs Hs Rs u Hs' F => u = .bool true
def eqtNd : Nd := .and (.e (.le (.lit 0) (.var 2))) (.and (.e (.le (.lit 0) (.var 6))) (.and (.imp (.not (.eq (.var 2) (.var 6))) (.post [.ro 8 [.var 0] true, .ro 9 [.var 4] true] (.sv (.one (.bool .ff))))) (.imp (.eq (.var 2) (.var 6)) (.and (.inv 0 [⟨10, 0, .int .i64 (.lit 0)⟩] []) (.havoc 0 0 10 (.and (.imp (.lt (.var 10) (.var 2)) (.and (.e (.le (.lit 0) (.var 0))) (.and (.e (.le (.lit 0) (.var 1))) (.and (.e (.le (.lit 0) (.var 10))) (.and (.e (.hby 8 (.var 0) (.add (.var 1) (.mul (.var 10) (.lit 16))) (.lit 16))) (.and (.e (.le (.lit 0) (.var 4))) (.and (.e (.le (.lit 0) (.var 5))) (.and (.e (.lt (.var 10) (.var 6))) (.and (.e (.hby 9 (.var 4) (.add (.var 5) (.mul (.var 10) (.lit 16))) (.lit 16))) (.and (.imp (.not (.and (.eq (.hI 8 (.var 0) (.add (.var 1) (.mul (.var 10) (.lit 16))) 0) (.hI 9 (.var 4) (.add (.var 5) (.mul (.var 10) (.lit 16))) 0)) (.and (.eq (.hI 8 (.var 0) (.add (.var 1) (.mul (.var 10) (.lit 16))) 1) (.hI 9 (.var 4) (.add (.var 5) (.mul (.var 10) (.lit 16))) 1)) (.and (.eq (.hI 8 (.var 0) (.add (.var 1) (.mul (.var 10) (.lit 16))) 2) (.hI 9 (.var 4) (.add (.var 5) (.mul (.var 10) (.lit 16))) 2)) (.and (.eq (.hI 8 (.var 0) (.add (.var 1) (.mul (.var 10) (.lit 16))) 3) (.hI 9 (.var 4) (.add (.var 5) (.mul (.var 10) (.lit 16))) 3)) (.and (.eq (.hI 8 (.var 0) (.add (.var 1) (.mul (.var 10) (.lit 16))) 4) (.hI 9 (.var 4) (.add (.var 5) (.mul (.var 10) (.lit 16))) 4)) (.and (.eq (.hI 8 (.var 0) (.add (.var 1) (.mul (.var 10) (.lit 16))) 5) (.hI 9 (.var 4) (.add (.var 5) (.mul (.var 10) (.lit 16))) 5)) (.and (.eq (.hI 8 (.var 0) (.add (.var 1) (.mul (.var 10) (.lit 16))) 6) (.hI 9 (.var 4) (.add (.var 5) (.mul (.var 10) (.lit 16))) 6)) (.and (.eq (.hI 8 (.var 0) (.add (.var 1) (.mul (.var 10) (.lit 16))) 7) (.hI 9 (.var 4) (.add (.var 5) (.mul (.var 10) (.lit 16))) 7)) (.and (.eq (.hI 8 (.var 0) (.add (.var 1) (.mul (.var 10) (.lit 16))) 8) (.hI 9 (.var 4) (.add (.var 5) (.mul (.var 10) (.lit 16))) 8)) (.and (.eq (.hI 8 (.var 0) (.add (.var 1) (.mul (.var 10) (.lit 16))) 9) (.hI 9 (.var 4) (.add (.var 5) (.mul (.var 10) (.lit 16))) 9)) (.and (.eq (.hI 8 (.var 0) (.add (.var 1) (.mul (.var 10) (.lit 16))) 10) (.hI 9 (.var 4) (.add (.var 5) (.mul (.var 10) (.lit 16))) 10)) (.and (.eq (.hI 8 (.var 0) (.add (.var 1) (.mul (.var 10) (.lit 16))) 11) (.hI 9 (.var 4) (.add (.var 5) (.mul (.var 10) (.lit 16))) 11)) (.and (.eq (.hI 8 (.var 0) (.add (.var 1) (.mul (.var 10) (.lit 16))) 12) (.hI 9 (.var 4) (.add (.var 5) (.mul (.var 10) (.lit 16))) 12)) (.and (.eq (.hI 8 (.var 0) (.add (.var 1) (.mul (.var 10) (.lit 16))) 13) (.hI 9 (.var 4) (.add (.var 5) (.mul (.var 10) (.lit 16))) 13)) (.and (.eq (.hI 8 (.var 0) (.add (.var 1) (.mul (.var 10) (.lit 16))) 14) (.hI 9 (.var 4) (.add (.var 5) (.mul (.var 10) (.lit 16))) 14)) (.eq (.hI 8 (.var 0) (.add (.var 1) (.mul (.var 10) (.lit 16))) 15) (.hI 9 (.var 4) (.add (.var 5) (.mul (.var 10) (.lit 16))) 15)))))))))))))))))) (.post [.ro 8 [.var 0] true, .ro 9 [.var 4] true] (.sv (.one (.bool .ff))))) (.imp (.and (.eq (.hI 8 (.var 0) (.add (.var 1) (.mul (.var 10) (.lit 16))) 0) (.hI 9 (.var 4) (.add (.var 5) (.mul (.var 10) (.lit 16))) 0)) (.and (.eq (.hI 8 (.var 0) (.add (.var 1) (.mul (.var 10) (.lit 16))) 1) (.hI 9 (.var 4) (.add (.var 5) (.mul (.var 10) (.lit 16))) 1)) (.and (.eq (.hI 8 (.var 0) (.add (.var 1) (.mul (.var 10) (.lit 16))) 2) (.hI 9 (.var 4) (.add (.var 5) (.mul (.var 10) (.lit 16))) 2)) (.and (.eq (.hI 8 (.var 0) (.add (.var 1) (.mul (.var 10) (.lit 16))) 3) (.hI 9 (.var 4) (.add (.var 5) (.mul (.var 10) (.lit 16))) 3)) (.and (.eq (.hI 8 (.var 0) (.add (.var 1) (.mul (.var 10) (.lit 16))) 4) (.hI 9 (.var 4) (.add (.var 5) (.mul (.var 10) (.lit 16))) 4)) (.and (.eq (.hI 8 (.var 0) (.add (.var 1) (.mul (.var 10) (.lit 16))) 5) (.hI 9 (.var 4) (.add (.var 5) (.mul (.var 10) (.lit 16))) 5)) (.and (.eq (.hI 8 (.var 0) (.add (.var 1) (.mul (.var 10) (.lit 16))) 6) (.hI 9 (.var 4) (.add (.var 5) (.mul (.var 10) (.lit 16))) 6)) (.and (.eq (.hI 8 (.var 0) (.add (.var 1) (.mul (.var 10) (.lit 16))) 7) (.hI 9 (.var 4) (.add (.var 5) (.mul (.var 10) (.lit 16))) 7)) (.and (.eq (.hI 8 (.var 0) (.add (.var 1) (.mul (.var 10) (.lit 16))) 8) (.hI 9 (.var 4) (.add (.var 5) (.mul (.var 10) (.lit 16))) 8)) (.and (.eq (.hI 8 (.var 0) (.add (.var 1) (.mul (.var 10) (.lit 16))) 9) (.hI 9 (.var 4) (.add (.var 5) (.mul (.var 10) (.lit 16))) 9)) (.and (.eq (.hI 8 (.var 0) (.add (.var 1) (.mul (.var 10) (.lit 16))) 10) (.hI 9 (.var 4) (.add (.var 5) (.mul (.var 10) (.lit 16))) 10)) (.and (.eq (.hI 8 (.var 0) (.add (.var 1) (.mul (.var 10) (.lit 16))) 11) (.hI 9 (.var 4) (.add (.var 5) (.mul (.var 10) (.lit 16))) 11)) (.and (.eq (.hI 8 (.var 0) (.add (.var 1) (.mul (.var 10) (.lit 16))) 12) (.hI 9 (.var 4) (.add (.var 5) (.mul (.var 10) (.lit 16))) 12)) (.and (.eq (.hI 8 (.var 0) (.add (.var 1) (.mul (.var 10) (.lit 16))) 13) (.hI 9 (.var 4) (.add (.var 5) (.mul (.var 10) (.lit 16))) 13)) (.and (.eq (.hI 8 (.var 0) (.add (.var 1) (.mul (.var 10) (.lit 16))) 14) (.hI 9 (.var 4) (.add (.var 5) (.mul (.var 10) (.lit 16))) 14)) (.eq (.hI 8 (.var 0) (.add (.var 1) (.mul (.var 10) (.lit 16))) 15) (.hI 9 (.var 4) (.add (.var 5) (.mul (.var 10) (.lit 16))) 15))))))))))))))))) (.back 0 0 [⟨10, 0, .int .i64 (.wrap .i64 (.add (.var 10) (.lit 1)))⟩] [])))))))))))) (.imp (.not (.lt (.var 10) (.var 2))) (.post [.ro 8 [.var 0] true, .ro 9 [.var 4] true] (.sv (.one (.bool .tt)))))))))))
def eqtW : Walk Try.prog [] eqtS.fn where
  Λ := fun p => if lp p then some ⟨0, [(13, TI .i64 (.var 10))], [], 11⟩ else none
  args := [.sv (.one (.sl (.var 0) (.var 1) (.var 2) (.var 3))), .sv (.one (.sl (.var 4) (.var 5) (.var 6) (.var 7)))]
  mem := [.ro 8 [.var 0] true, .ro 9 [.var 4] true]
  nv := 10
  nd := eqtNd
  ok := by kernel_rfl
theorem cb16 {R : Hl} {x : Nat} {y y' : Int} {n : Nat} {t : List Int} (hl : t.length = 16) (h : ∀ j u, (bys t)[j]? = some u → R.cell x (y.toNat + n * tkd.length + j) = some u) (e : y'.toNat = y.toNat + n * tkd.length) : cellBytes R x y'.toNat (Int.toNat 16) = true ∧ ∀ j, j < 16 → R.cell x (y'.toNat + j) = some (.int .u8 (t.getD j 0)) := by
  have key : ∀ j, j < 16 → R.cell x (y'.toNat + j) = some (.int .u8 (t.getD j 0)) := by
    intro j hj
    rw [e]
    refine h j _ ?_
    rw [bys_get, List.getD_eq_getElem?_getD, List.getElem?_eq_getElem (by omega)]
    rfl
  refine ⟨?_, key⟩
  unfold cellBytes
  rw [List.all_eq_true]
  intro j hj
  rw [key j (by simpa using hj)]
  rfl
theorem eqtS_ok : eqtS.OK Try.prog := by
  refine Spec.of_fn (Γ := []) (fun _ h => by cases h) ?_
  rintro xs Hs Rs hl1 hl2 ⟨u1, u2, R1, R2, T, rfl, rfl, hA, hB, hT, hT20⟩
  have e0 : Hs = [] := List.length_eq_zero_iff.1 hl1
  subst e0
  obtain ⟨x, y, c, rfl, hy, hrA⟩ := id hA
  obtain ⟨x', y', c', rfl, hy', hrB⟩ := id hB
  rw [List.length_map] at *
  refine ⟨eqtW, envI [x, y, T.length, c, x', y', T.length, c'] false [Hl.none, Hl.none, Hl.none, Hl.none, Hl.none, Hl.none, Hl.none, Hl.none, R1, R2], fun _ q => ∃ k : Nat, q.i 10 = k ∧ k ≤ T.length, fun _ q => (T.length - q.i 10).toNat, ?_, ⟨?_, ?_, ?_, ?_⟩, (fun _ h => nomatch h), ?_⟩
  · show [Value.slice (slP x y) ((T.length : Int)).toNat ((c : Int)).toNat, Value.slice (slP x' y') ((T.length : Int)).toNat ((c' : Int)).toNat] = _
    rw [Int.toNat_natCast, Int.toNat_natCast, Int.toNat_natCast]
  · intro r hr ho; simp [eqtW] at hr; rcases hr with rfl | rfl <;> cases ho
  · intro r hr ho; simp [eqtW] at hr
    rcases hr with rfl | rfl
    · exact ⟨R1, by simp, Hl.le_refl _⟩
    · exact ⟨R2, by simp, Hl.le_refl _⟩
  · simp [eqtW, Res.own]
  · intro r hr; simp [eqtW] at hr; rcases hr with rfl | rfl <;> trivial
  · show Nd.holds _ _ _ eqtNd
    unfold eqtNd
    generalize hρ : envI [x, y, T.length, c, x', y', T.length, c'] false [Hl.none, Hl.none, Hl.none, Hl.none, Hl.none, Hl.none, Hl.none, Hl.none, R1, R2] = ρ
    have v0 : ρ.i 0 = x := by rw [← hρ]; rfl
    have v1 : ρ.i 1 = y := by rw [← hρ]; rfl
    have v2 : ρ.i 2 = T.length := by rw [← hρ]; rfl
    have v4 : ρ.i 4 = x' := by rw [← hρ]; rfl
    have v5 : ρ.i 5 = y' := by rw [← hρ]; rfl
    have v6 : ρ.i 6 = T.length := by rw [← hρ]; rfl
    have w8 : ρ.h 8 = R1 := by rw [← hρ]; rfl
    have w9 : ρ.h 9 = R2 := by rw [← hρ]; rfl
    clear hρ
    have yes : ∀ (q : Env) (mem : Mem), postOf eqtS [.slice (slP x y) T.length c, .slice (slP x' y') T.length c'] [] [R1, R2] q mem (.sv (.one (.bool .tt))) := fun q mem =>
      outOf rfl (v := .bool true) rfl (shB rfl _) rfl
    simp only [Nd.holds, X.pre, X.rel, X.n, Src.ok, Src.len, Src.vals, true_and, and_true, if_true, Nat.mul_one, Nat.add_zero, Nat.reduceAdd, List.length_cons, List.length_nil, bT_tt, bT_ff, bT_bvar, bT_not, bT_and, bT_or, bT_ite, bT_lt, bT_le, bT_eq, bT_beq, bT_seq, bT_hB, bT_his, bT_hby, bT_hism, bT_hks, iev_lit, iev_var, iev_add, iev_sub, iev_mul, iev_wrap, iev_ite, iev_hI, iev_hP, iev_hmlen, sev_ite, sev_slit, sev_sof, sev_svar, TV.ev, SV.ev, CV.ev, List.map_cons, List.map_nil, Res.hl, v2, v6]
    refine ⟨by omega, by omega, fun h => absurd trivial h, fun _ => ⟨⟨0, rfl, by omega⟩, fun q g ⟨k, e10, hk⟩ => ?_⟩⟩
    rw [g.i 0 (by omega), v0, g.i 1 (by omega), v1, g.i 2 (by omega), v2, g.i 4 (by omega), v4, g.i 5 (by omega), v5, g.i 6 (by omega), v6, g.h 8 (by omega), w8, g.h 9 (by omega), w9, e10]
    refine ⟨fun hlt => ?_, fun _ => yes _ _⟩
    have hkl : k < T.length := by omega
    have hrow : (T.map bys)[k]? = some (bys T[k]) := by rw [List.getElem?_map, List.getElem?_eq_getElem hkl]; rfl
    have ht := hT _ (List.getElem_mem hkl)
    have t0 : ∀ {l : List (List Value)}, l = [] → l[k]? = some (bys T[k]) → False := fun h h2 => by rw [h] at h2; simp at h2
    rcases hrA with h | ⟨hx0, hra⟩
    · exact (t0 h hrow).elim
    rcases hrB with h | ⟨hx0', hrb⟩
    · exact (t0 h hrow).elim
    have l16 : tkd.length = 16 := rfl
    obtain ⟨cA, dA⟩ := cb16 (y' := y + (k : Int) * 16) ht (hra k _ hrow).2 (by rw [l16]; omega)
    obtain ⟨cB, dB⟩ := cb16 (y' := y' + (k : Int) * 16) ht (hrb k _ hrow).2 (by rw [l16]; omega)
    have z1 := dA 0 (by omega)
    have z2 := dB 0 (by omega)
    rw [Nat.add_zero] at z1 z2
    rw [z1, z2]
    simp only [dA 1 (by omega), dA 2 (by omega), dA 3 (by omega), dA 4 (by omega), dA 5 (by omega), dA 6 (by omega), dA 7 (by omega), dA 8 (by omega), dA 9 (by omega), dA 10 (by omega), dA 11 (by omega), dA 12 (by omega), dA 13 (by omega), dA 14 (by omega), dA 15 (by omega), dB 1 (by omega), dB 2 (by omega), dB 3 (by omega), dB 4 (by omega), dB 5 (by omega), dB 6 (by omega), dB 7 (by omega), dB 8 (by omega), dB 9 (by omega), dB 10 (by omega), dB 11 (by omega), dB 12 (by omega), dB 13 (by omega), dB 14 (by omega), dB 15 (by omega), and_self, not_true, false_implies, true_implies]
    have m10 : (assign q [⟨10, 0, .int .i64 (.wrap .i64 (.add (.var 10) (.lit 1)))⟩] []).i 10 = k + 1 := by
      show IntKind.i64.wrap (q.i 10 + 1) = _
      rw [e10, wrap_i64 (by omega) (by omega)]
    exact ⟨hx0, by omega, by omega, cA, hx0', by omega, by omega, cB, trivial, ⟨k + 1, by rw [m10]; omega, by omega⟩, by rw [m10]; omega⟩
noncomputable def sameS : Sx.Spec where
  fn := 19
  own := []
  rd := [10053, 10153]
  res := [.one .bool]
  pre := fun xs Hs Rs => ∃ (ra rb : List Value) (h : Hd) (R1 R2 : Hl), xs = [.agg ra.toArray, .agg rb.toArray] ∧ Rs = [R1, R2] ∧ IsHd R1 ra h ∧ IsHd R2 rb h
  post := fun xs Hs Rs u Hs' F => u = .bool true
def sameNd : Nd := .ext (.alloc 134) (.ext (.alloc 135) (.and (.pre (.call 0 136 [.sv (.one (.sl (.var 57) (.var 58) (.var 59) (.var 60))), .sv (.one (.sl (.var 0) (.var 1) (.var 2) (.var 3)))] [] [.ro 132 [.var 57] true, .ro 133 [.var 0] true])) (.ext (.call 0 136 [.sv (.one (.sl (.var 57) (.var 58) (.var 59) (.var 60))), .sv (.one (.sl (.var 0) (.var 1) (.var 2) (.var 3)))] [] [.ro 132 [.var 57] true, .ro 133 [.var 0] true]) (.and (.imp (.not (.bvar 136)) (.post [.ro 132 [.var 57] true, .ro 133 [.var 0] true, .dead, .dead] (.sv (.one (.bool .ff))))) (.imp (.bvar 136) (.post [.ro 132 [.var 57] true, .ro 133 [.var 0] true, .dead, .dead] (.sv (.one (.bool .tt)))))))))
def mΓ : List Sx.Spec := [eqtS]
theorem mΓ_ok : ∀ t ∈ mΓ, t.OK Try.prog := fun t ht => by
  simp only [mΓ, List.mem_cons, List.mem_nil_iff, or_false] at ht
  subst ht
  exact eqtS_ok
theorem mg0 : mΓ[0]? = some eqtS := rfl
theorem mr0 : eqtS.res = [.one .bool] := rfl
noncomputable def sameW : Walk Try.prog mΓ sameS.fn where
  Λ := noLoops
  args := [.sv (.agg (Sx.ckCVs 4 hk2)), .sv (.agg (Sx.ckCVs 4 hA ++ CV.sl (.var 0) (.var 1) (.var 2) (.var 3) :: Sx.ckCVs 61 hB))]
  mem := [.ro 132 [.var 57] true, .ro 133 [.var 0] true]
  nv := 134
  nd := sameNd
  ok := by kernel_rfl
theorem core_eq {R1 R2 : Hl} {ra rb : List Value} {h : Hd} (x : IsHd R1 ra h) (y : IsHd R2 rb h) : rb = ra.set 53 (tokV rb) := by
  have e : ra.set 53 (.bool false) = rb.set 53 (.bool false) := x.core.symm.trans y.core
  have e2 := congrArg (fun l => l.set 53 (tokV rb)) e
  simp only [List.set_set] at e2
  rw [e2]
  have hl := rowOK_length y.ok
  have h125 : hkd.length = 125 := rfl
  unfold tokV
  rw [List.getD_eq_getElem?_getD, List.getElem?_eq_getElem (by omega), Option.getD_some, List.set_getElem_self]
theorem sameS_ok : sameS.OK Try.prog := by
  refine Spec.of_fn (Γ := mΓ) mΓ_ok ?_
  rintro xs Hs Rs hl1 hl2 ⟨ra, rb, h, R1, R2, rfl, rfl, xa, xb⟩
  have e0 : Hs = [] := List.length_eq_zero_iff.1 hl1
  subst e0
  obtain ⟨x, y, c, et, hy, hrB⟩ := id xb.tok
  have hrb : rb = ra.set 53 (.slice (slP x y) (h.t.map bys).length c) := by
    rw [← et]; exact core_eq xa xb
  have few := xa.few
  rw [List.length_map] at *
  obtain ⟨ρ, a, e2, _⟩ := row_envN xa.ok 4 (envI [x, y, h.t.length, c] false [])
  obtain ⟨ρ', hρ'⟩ : ∃ ρ' : Env, ρ' = ⟨ρ.i, ρ.b, ρ.s, ρ.v, fun k => if k = 132 then R1 else if k = 133 then R2 else Hl.none⟩ := ⟨_, rfl⟩
  have v0 : ρ'.i 0 = x := by rw [hρ']; show ρ.i 0 = _; rw [a.i 0 (by omega)]; rfl
  have v1 : ρ'.i 1 = y := by rw [hρ']; show ρ.i 1 = _; rw [a.i 1 (by omega)]; rfl
  have v2 : ρ'.i 2 = h.t.length := by rw [hρ']; show ρ.i 2 = _; rw [a.i 2 (by omega)]; rfl
  have v3 : ρ'.i 3 = c := by rw [hρ']; show ρ.i 3 = _; rw [a.i 3 (by omega)]; rfl
  have w1 : ρ'.h 132 = R1 := by rw [hρ']; rfl
  have w2 : ρ'.h 133 = R2 := by rw [hρ']; rfl
  have er : rowN ρ' 4 = ra := by rw [e2, hρ']; rfl
  clear hρ' e2 a
  have etk : tokV ra = .slice (slP (ρ'.i 57) (ρ'.i 58)) (ρ'.i 59).toNat (ρ'.i 60).toNat := by rw [← er]; rfl
  have htA := xa.tok
  have htB := xb.tok
  rw [show ra.getD 53 (.bool false) = _ from etk] at htA
  rw [et] at htB
  refine ⟨sameW, ρ', fun _ _ => True, fun _ _ => 0, ?_, ⟨?_, ?_, ?_, ?_⟩, (fun _ h => nomatch h), ?_⟩
  · rw [hrb, ← er, set53, ← v0, ← v1]
    show [Value.agg (rowN ρ' 4).toArray, Value.agg ((Sx.ckCVs 4 hA ++ CV.sl (.var 0) (.var 1) (.var 2) (.var 3) :: Sx.ckCVs 61 hB).map (CV.ev ρ')).toArray] = _
    rw [List.map_append, List.map_cons]
    show [_, Value.agg (_ ++ Value.slice (slP (ρ'.i 0) (ρ'.i 1)) (ρ'.i 2).toNat (ρ'.i 3).toNat :: _).toArray] = _
    rw [v2, v3, Int.toNat_natCast, Int.toNat_natCast]
  · intro r hr ho; simp [sameW] at hr; rcases hr with rfl | rfl <;> cases ho
  · intro r hr ho; simp [sameW] at hr
    rcases hr with rfl | rfl
    · exact ⟨R1, by simp, by show (ρ'.h 132).le R1; rw [w1]; exact Hl.le_refl _⟩
    · exact ⟨R2, by simp, by show (ρ'.h 133).le R2; rw [w2]; exact Hl.le_refl _⟩
  · simp [sameW, Res.own]
  · intro r hr; simp [sameW] at hr; rcases hr with rfl | rfl <;> trivial
  · show Nd.holds _ _ _ sameNd
    unfold sameNd
    simp only [Nd.holds, X.pre, X.rel, X.n, Src.ok, Src.len, Src.vals, true_and, and_true, if_true, Nat.mul_one, Nat.add_zero, Nat.reduceAdd, List.length_cons, List.length_nil, bT_tt, bT_ff, bT_bvar, bT_not, bT_and, bT_or, bT_ite, bT_lt, bT_le, bT_eq, bT_beq, bT_seq, bT_hB, bT_his, bT_hby, bT_hism, bT_hks, iev_lit, iev_var, iev_add, iev_sub, iev_mul, iev_wrap, iev_ite, iev_hI, iev_hP, iev_hmlen, sev_ite, sev_slit, sev_sof, sev_svar, TV.ev, SV.ev, CV.ev, List.map_cons, List.map_nil, Res.hl, cpTV, Cp.sv, Ck.cv, cpSVs, Cp.len, Ck.len, newHs_zero, newHs_one, roots_ne, mg0, mr0]
    intro q1 g1 _ q2 g2 _
    have P2 : Agree 134 ρ' q2 := g1.trans (g2.mono (by omega))
    rw [P2.i 0 (by omega), P2.i 1 (by omega), P2.i 2 (by omega), P2.i 3 (by omega), P2.i 57 (by omega), P2.i 58 (by omega), P2.i 59 (by omega), P2.i 60 (by omega), P2.h 132 (by omega), P2.h 133 (by omega), w1, w2, v0, v1, v2, v3, Int.toNat_natCast, Int.toNat_natCast]
    have hb16 : ∀ t ∈ h.t, t.length = 16 := fun t ht => (xa.byte t ht).1
    refine ⟨⟨_, _, R1, R2, h.t, rfl, rfl, htA, htB, hb16, few⟩, fun q3 g3 ⟨F3, hp3, _, _⟩ => ?_⟩
    have hb : q3.b 136 = true := by
      have h1 : Value.bool (q3.b 136) = .bool true := hp3
      simpa using h1
    rw [hb]
    refine ⟨fun h => absurd rfl h, fun _ => ?_⟩
    exact outOf rfl (v := .bool true) rfl (shB rfl _) rfl
end Go.Proofs.Ytnlejejjeilpoaa.V2
