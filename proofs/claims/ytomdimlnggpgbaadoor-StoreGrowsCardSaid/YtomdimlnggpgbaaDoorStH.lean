/- Layer 9: ready as a contract. No condition. -/
import Derived.Test.YtomdimlnggpgbaaDoorStG
set_option linter.unusedSimpArgs false
set_option linter.unusedVariables false
set_option linter.constructorNameAsVariable false
namespace Go.Proofs.YtomdimlnggpgbaaDoor
open Go Go.Sx Go.Pk
open Go.Proofs.YtomdimlnggpgbaaDoor.D hiding envI noLoops numS

def readyE (o : Bool) (rows : List (List Int)) (e : Int) : Prop := (o = true → e = 5) ∧ (o = false → packOk rows → e = 0) ∧ (o = false → ¬ packOk rows → e = 3)
def readyS : Sx.Spec where
  fn := 33
  own := []
  rd := [0, 1, 3000001]
  res := [.one .sl, .one (.int .i64)]
  pre := fun xs Hs Rs => ∃ p v a o R R1 RA rows, xs = [p, v] ∧ Rs = [R, R1, RA] ∧ p = .pointer (some ⟨a, 0, none⟩) ∧ R.cell a 3 = some (.bool o) ∧ RowsB R1 RA v rows ∧ rows.length ≤ 1000000 ∧ ∀ r ∈ rows, r.length ≤ 1000000
  post := fun xs Hs Rs w Hs' F => ∃ p v a o R R1 RA rows u e, xs = [p, v] ∧ Rs = [R, R1, RA] ∧ p = .pointer (some ⟨a, 0, none⟩) ∧ R.cell a 3 = some (.bool o) ∧ RowsB R1 RA v rows ∧ w = .tuple #[u, .int .i64 e] ∧ readyE o rows e ∧ (e = 0 → OwB F 5 u (packB rows))
theorem ready_post {a : Nat} {o : Bool} {v w : Value} {R R1 RA F : Hl} {K : List Hl} {rows : List (List Int)} (h1 : R.cell a 3 = some (.bool o)) (h2 : RowsB R1 RA v rows) (hp : readyS.post [.pointer (some ⟨a, 0, none⟩), v] [] [R, R1, RA] w K F) :
    ∃ u e, w = .tuple #[u, .int .i64 e] ∧ readyE o rows e ∧ (e = 0 → OwB F 5 u (packB rows)) := by
  obtain ⟨p', v', a', o', R', R1', RA', rows', u, e, e1, e2, e3, e4, e5, hw, hE, hO⟩ := hp
  simp only [List.cons.injEq, and_true] at e1 e2
  obtain ⟨ep, ev⟩ := e1
  obtain ⟨x1, x2, x3⟩ := e2
  subst ep ev x1 x2 x3
  have ea : a = a' := by simpa using e3
  subst ea
  have eo : o = o' := by simpa using h1.symm.trans e4
  subst eo
  obtain rfl := h2.uniq e5
  exact ⟨u, e, hw, hE, hO⟩
theorem packed_post {v w : Value} {R RA F : Hl} {K : List Hl} {rows : List (List Int)} (h2 : RowsB R RA v rows) (hp : packedS.post [v] [] [R, RA] w K F) :
    ∃ u e, w = .tuple #[u, .int .i64 e] ∧ (packOk rows → e = 0 ∧ OwB F 5 u (packB rows)) ∧ (¬ packOk rows → e = 3) := by
  obtain ⟨v', R', RA', rows', u, e, e1, e2, e5, hw, hE, hO⟩ := hp
  simp only [List.cons.injEq, and_true] at e1 e2
  obtain ⟨x2, x3⟩ := e2
  subst e1 x2 x3
  obtain rfl := h2.uniq e5
  exact ⟨u, e, hw, hE, hO⟩
def rdyΓ : List Sx.Spec := [packedS]
theorem rdyΓ_ok : ∀ t ∈ rdyΓ, t.OK Tryd.prog := fun t ht => by
  simp only [rdyΓ, List.mem_cons, List.mem_nil_iff, or_false] at ht
  rw [ht]; exact packedS_ok
def readyNd : Nd := .and (.e (.le (.lit 0) (.var 0))) (.and (.e (.his 5 (.var 0) (.lit 3) 0 .bool)) (.and (.imp (.hB 5 (.var 0) (.lit 3) 0) (.post [.ro 5 [.var 0] false, .ro 6 [.var 1] false, .ro 7 [] true] (.tup [.one (.sl (.lit (-1)) (.lit 0) (.lit 0) (.lit 0)), .one (.int .i64 (.lit 5))]))) (.imp (.not (.hB 5 (.var 0) (.lit 3) 0)) (.and (.pre (.call 0 8 [.sv (.one (.sl (.var 1) (.var 2) (.var 3) (.var 4)))] [] [.ro 6 [.var 1] false, .ro 7 [] true])) (.ext (.call 0 8 [.sv (.one (.sl (.var 1) (.var 2) (.var 3) (.var 4)))] [] [.ro 6 [.var 1] false, .ro 7 [] true]) (.post [.ro 5 [.var 0] false, .ro 6 [.var 1] false, .ro 7 [] true, .hp 8 [] [.var 8] []] (.tup [.one (.sl (.var 8) (.var 9) (.var 10) (.var 11)), .one (.int .i64 (.var 12))])))))))
def readyW : Walk Tryd.prog rdyΓ readyS.fn where
  Λ := noLoops
  args := [TP (.var 0) (.lit 0), .sv (.one (.sl (.var 1) (.var 2) (.var 3) (.var 4)))]
  mem := [.ro 5 [.var 0] false, .ro 6 [.var 1] false, .ro 7 [] true]
  nv := 8
  nd := readyNd
  ok := by kernel_rfl
theorem rdg0 : rdyΓ[0]? = some packedS := rfl
theorem rdr0 : packedS.res = [.one .sl, .one (.int .i64)] := rfl
open Classical in
theorem readyS_ok : readyS.OK Tryd.prog := by
  refine Spec.of_fn (Γ := rdyΓ) rdyΓ_ok ?_
  rintro xs Hs Rs hl1 hl2 ⟨p, v, a, o, R, R1, RA, rows, rfl, rfl, rfl, hc, hB, hlen, hrow⟩
  have e0 : Hs = [] := List.length_eq_zero_iff.1 hl1
  subst e0
  obtain ⟨us, x, y, c, rfl, hy, hul, hcell, hrd⟩ := id hB
  refine ⟨readyW, envI [(a : Int), x, y, us.length, c] false [Hl.none, Hl.none, Hl.none, Hl.none, Hl.none, R, R1, RA], fun _ _ => True, fun _ _ => 0, ?_, ⟨?_, ?_, ?_, ?_⟩, (fun _ h => nomatch h), ?_⟩
  · show [Value.pointer (slP (a : Int) 0), Value.slice (slP x y) ((us.length : Int)).toNat ((c : Int)).toNat] = _
    rw [Int.toNat_natCast, Int.toNat_natCast, ptr0]
  · intro r hr ho; simp [readyW] at hr; rcases hr with rfl | rfl | rfl <;> cases ho
  · intro r hr ho; simp [readyW] at hr
    rcases hr with rfl | rfl | rfl
    · exact ⟨R, by simp, Hl.le_refl _⟩
    · exact ⟨R1, by simp, Hl.le_refl _⟩
    · exact ⟨RA, by simp, Hl.le_refl _⟩
  · simp [readyW, Res.own]
  · intro r hr; simp [readyW] at hr; rcases hr with rfl | rfl | rfl <;> trivial
  · show Nd.holds _ _ _ readyNd
    generalize hρ : envI [(a : Int), x, y, us.length, c] false [Hl.none, Hl.none, Hl.none, Hl.none, Hl.none, R, R1, RA] = ρ
    have v0 : ρ.i 0 = a := by rw [← hρ]; rfl
    have v1 : ρ.i 1 = x := by rw [← hρ]; rfl
    have v2 : ρ.i 2 = y := by rw [← hρ]; rfl
    have v3 : ρ.i 3 = us.length := by rw [← hρ]; rfl
    have v4 : ρ.i 4 = c := by rw [← hρ]; rfl
    have w5 : ρ.h 5 = R := by rw [← hρ]; rfl
    have w6 : ρ.h 6 = R1 := by rw [← hρ]; rfl
    have w7 : ρ.h 7 = RA := by rw [← hρ]; rfl
    clear hρ
    have t3 : Int.toNat 3 = 3 := rfl
    unfold readyNd
    simp only [Nd.holds, X.pre, X.rel, X.n, Src.ok, Src.len, Src.vals, true_and, and_true, if_true, Nat.mul_one, Nat.add_zero, Nat.reduceAdd, List.length_cons, List.length_nil, bT_tt, bT_ff, bT_bvar, bT_not, bT_and, bT_or, bT_ite, bT_lt, bT_le, bT_eq, bT_beq, bT_seq, bT_hB, bT_his, bT_hby, bT_hism, bT_hks, iev_lit, iev_var, iev_add, iev_sub, iev_mul, iev_wrap, iev_ite, iev_hI, iev_hP, iev_hmlen, sev_ite, sev_slit, sev_sof, sev_svar, TV.ev, SV.ev, CV.ev, List.map_cons, List.map_nil, Res.hl, cpTV, Cp.sv, Ck.cv, cpSVs, Cp.len, Ck.len, newHs_zero, newHs_one, roots_ne, rdg0, rdr0, rsi, t3]
    rw [v0, v1, v2, v3, v4, w5, w6, w7, Int.toNat_natCast, Int.toNat_natCast, Int.toNat_natCast, hc]
    refine ⟨by omega, rfl, fun ho _ => ?_, fun ho => ⟨⟨_, R1, RA, rows, rfl, rfl, hB, hlen, hrow⟩, fun q1 g1 ⟨F1, hp1, hF1, hn1⟩ _ => ?_⟩⟩
    · have ho : o = true := ho
      refine ⟨[], [], rfl, rfl, ⟨⟨fun j => [-1, 0, 0, 0, 5].getD j 0, fun _ => false, fun _ => .empty, fun _ => .tuple #[], fun _ => Hl.none⟩, rfl, ⟨Int.le_refl _, Int.le_refl _, Int.le_refl _, Int.le_refl _⟩, trivial, trivial⟩, _, _, a, o, R, R1, RA, rows, .slice none 0 0, 5, rfl, rfl, rfl, hc, hB, rfl, ⟨fun _ => rfl, fun h => absurd (ho.symm.trans h) (by simp), fun h => absurd (ho.symm.trans h) (by simp)⟩, fun h => absurd h (by decide)⟩
    · have ho : ¬ o = true := ho
      obtain ⟨u, e, hw, hy1, hy2⟩ := packed_post hB hp1
      simp only [Value.tuple.injEq, Array.mk.injEq, List.cons.injEq, Value.int.injEq, true_and, and_true] at hw
      obtain ⟨eu, ee⟩ := hw
      have hn : -1 ≤ q1.i 8 ∧ 0 ≤ q1.i 9 ∧ 0 ≤ q1.i 10 ∧ 0 ≤ q1.i 11 := hn1.1
      refine ⟨[], [3], rfl, rfl, ⟨⟨fun j => [q1.i 8, q1.i 9, q1.i 10, q1.i 11, q1.i 12].getD j 0, fun _ => false, fun _ => .empty, fun _ => .tuple #[], fun _ => Hl.none⟩, rfl, hn, trivial, trivial⟩, _, _, a, o, R, R1, RA, rows, .slice (slP (q1.i 8) (q1.i 9)) (q1.i 10).toNat (q1.i 11).toNat, q1.i 12, rfl, rfl, rfl, hc, hB, rfl, ⟨fun h => absurd h ho, fun _ h => ?_, fun _ h => ?_⟩, fun h => ?_⟩
      · rw [ee]; exact (hy1 h).1
      · rw [ee]; exact hy2 h
      · show OwB (hls [q1.h 8]) _ _ _
        rw [hls_one, hF1 trivial, eu]
        by_cases hk : packOk rows
        · exact (hy1 hk).2
        · have := hy2 hk; omega
end Go.Proofs.YtomdimlnggpgbaaDoor
