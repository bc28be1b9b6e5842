/- Layer 22: the reference's text, numbers and Piece, as contracts; steps that append bytes. Condition: at most 900000 bytes. -/
import Derived.Test.YtkdllpialpfopaaAqH
set_option linter.unusedSimpArgs false
set_option linter.unusedVariables false
set_option linter.constructorNameAsVariable false
namespace Go.Proofs.Ytkdllpialpfopaa
open Go Go.Sx Go.Pk

/-- A slice of bytes of its own, by its parts. -/
structure BP (A : Hl) (x y l c : Int) (bs : List Int) (m : Nat) : Prop where
  own : OwB A 5 (.slice (slP x y) l.toNat c.toNat) bs
  l : l = bs.length
  rx : -1 ≤ x
  ry : 0 ≤ y
  rc : 0 ≤ c
  len : bs.length ≤ m
theorem BP.nil : BP Hl.none (-1) 0 0 0 [] 0 := ⟨⟨rfl, Or.inl ⟨rfl, rfl⟩⟩, rfl, Int.le_refl _, Int.le_refl _, Int.le_refl _, Nat.le_refl _⟩
theorem BP.rd {A : Hl} {x y l c : Int} {bs : List Int} {m : Nat} (h : BP A x y l c bs m) : RdB A (.slice (slP x y) l.toNat c.toNat) bs := h.own.rd
/-- What is read of a slice whose length is told. -/
structure SP (S : Hl) (x y l c : Int) (bs : List Int) (m : Nat) : Prop where
  rd : RdW S (.slice (slP x y) l.toNat c.toNat) bs
  l0 : 0 ≤ l
  ry : 0 ≤ y
  len : bs.length ≤ m
theorem BP.sp {A : Hl} {x y l c : Int} {bs : List Int} {m : Nat} (h : BP A x y l c bs m) : SP A x y l c bs m := ⟨h.rd.w, by rw [h.l]; omega, h.ry, h.len⟩
theorem SP.at {S : Hl} {x y l c : Int} {bs : List Int} {m : Nat} (h : SP S x y l c bs m) : l = bs.length ∧ (bs = [] ∨ 0 ≤ x ∧ ∀ j z, bs[j]? = some z → S.cell x.toNat (y.toNat + j) = some (.int .u8 z)) := by
  obtain ⟨x', y', c', e, hy, hr⟩ := h.rd
  have h0 := h.l0
  simp only [Value.slice.injEq] at e
  refine ⟨by omega, ?_⟩
  rcases hr with hr | ⟨hx, hc⟩
  · exact Or.inl hr
  · obtain ⟨rfl, rfl⟩ := slP_eq hx hy h.ry e.1
    exact Or.inr ⟨hx, hc⟩
section
variable {q : Env} {n : Nat} {A S : Hl} {x y l c sx sy sl sc : Int} {B b2 : List Int} {m m2 : Nat} {D : Env → Prop} {K : Env → Prop}
theorem own_of (h : BP A x y l c B m) : OwnsH A 5 1 (.slice (slP x y) l.toNat c.toNat) l.toNat (bys B) := by
  have := h.own
  have e : l.toNat = B.length := by rw [h.l]; omega
  unfold OwB at this
  rw [e] at this ⊢
  exact this
theorem segB (h : BP A x y l c B m) (h2 : SP S sx sy sl sc b2 m2) (hm : m + m2 ≤ 900000)
    (k : ∀ q', Agree n q q' → BP (q'.h n) (q'.i n) 0 (l + sl) (q'.i (n + 1)) (B ++ b2) (m + m2) → K q') :
    ((∃ xs, OwnsH A 5 1 (.slice (slP x y) l.toNat c.toNat) l.toNat xs) ∧ 0 ≤ l ∧ ((0 ≤ sx ∧ 0 ≤ sy ∧ 0 ≤ sl ∧ ∀ j : Nat, j < sl.toNat → ∃ v, S.cell sx.toNat (sy.toNat + j) = some v ∧ v.oneCell' = true) ∨ sl = 0) ∧ l.toNat + sl.toNat ≤ maxLen ∧ l.toNat + sl.toNat ≤ 140737488355328) ∧
    ∀ q', Agree n q q' → (-1 ≤ q'.i n ∧ 0 ≤ q'.i (n + 1) ∧ (∀ xs, OwnsH A 5 1 (.slice (slP x y) l.toNat c.toNat) l.toNat xs → OwnsH (q'.h n) 5 1 (.slice (slP (q'.i n) 0) (l.toNat + sl.toNat) (q'.i (n + 1)).toNat) (l.toNat + sl.toNat) (xs ++ segVals S sx.toNat sy.toNat sl.toNat)) ∧ D q') → K q' := by
  obtain ⟨el, hr⟩ := h2.at
  obtain ⟨hok, hseg⟩ := seg_of (R := S) (x := sx) (y := sy) (l := sl) el h2.ry hr
  have e1 := h.l
  have e2 := h.len
  have e3 := h2.len
  refine ⟨⟨⟨bys B, own_of h⟩, by omega, hok, by unfold maxLen; omega, by omega⟩, fun q' g ⟨a1, a2, a3, _⟩ => k q' g ⟨?_, by rw [List.length_append]; omega, a1, Int.le_refl _, a2, by rw [List.length_append]; omega⟩⟩
  have := a3 _ (own_of h)
  rw [hseg, ← bys_append] at this
  have e : l.toNat + sl.toNat = (B ++ b2).length := by rw [List.length_append]; omega
  rw [e] at this
  unfold OwB
  rw [show (l + sl).toNat = (B ++ b2).length by rw [List.length_append]; omega]
  exact this
theorem cvsB {vs : List Value} {mm : Nat} {ml : Int} (h : BP A x y l c B m) (hv : vs = bys b2) (hmm : mm = b2.length) (hml : ml = mm) (hm : m + b2.length ≤ 900000)
    (k : ∀ q', Agree n q q' → BP (q'.h n) (q'.i n) 0 (l + ml) (q'.i (n + 1)) (B ++ b2) (m + b2.length) → K q') :
    ((∃ xs, OwnsH A 5 1 (.slice (slP x y) l.toNat c.toNat) l.toNat xs) ∧ 0 ≤ l ∧ l.toNat + mm ≤ maxLen ∧ l.toNat + mm ≤ 140737488355328) ∧
    ∀ q', Agree n q q' → (-1 ≤ q'.i n ∧ 0 ≤ q'.i (n + 1) ∧ (∀ xs, OwnsH A 5 1 (.slice (slP x y) l.toNat c.toNat) l.toNat xs → OwnsH (q'.h n) 5 1 (.slice (slP (q'.i n) 0) (l.toNat + mm) (q'.i (n + 1)).toNat) (l.toNat + mm) (xs ++ vs)) ∧ D q') → K q' := by
  have e1 := h.l
  have e2 := h.len
  refine ⟨⟨⟨bys B, own_of h⟩, by omega, by unfold maxLen; omega, by omega⟩, fun q' g ⟨a1, a2, a3, _⟩ => k q' g ⟨?_, by rw [List.length_append]; omega, a1, Int.le_refl _, a2, by rw [List.length_append]; omega⟩⟩
  have := a3 _ (own_of h)
  rw [hv, ← bys_append] at this
  have e : l.toNat + mm = (B ++ b2).length := by rw [List.length_append]; omega
  rw [e] at this
  unfold OwB
  rw [show (l + ml).toNat = (B ++ b2).length by rw [List.length_append]; omega]
  exact this
/-- What a contract that yields bytes of its own gives. -/
theorem bp_of {F : Hl} {q' : Env} (hO : OwB F 5 (.slice (slP (q'.i n) (q'.i (n + 1))) (q'.i (n + 2)).toNat (q'.i (n + 3)).toNat) B) (hF : True → q'.h n = F) (hn : cpNorms n [.one .sl] q') (hm : B.length ≤ m) : BP (q'.h n) (q'.i n) (q'.i (n + 1)) (q'.i (n + 2)) (q'.i (n + 3)) B m := by
  have hn : -1 ≤ q'.i n ∧ 0 ≤ q'.i (n + 1) ∧ 0 ≤ q'.i (n + 2) ∧ 0 ≤ q'.i (n + 3) := hn.1
  rw [← hF trivial] at hO
  have e : (q'.i (n + 2)).toNat = B.length := by
    obtain ⟨x, y, c, e, _⟩ := hO.rd
    simp only [Value.slice.injEq] at e
    exact e.2.1
  exact ⟨hO, by omega, hn.1, hn.2.1, hn.2.2.2, hm⟩
theorem rnumB {z : Int} (hz : 0 ≤ z ∧ z < 18446744073709551616) (k : ∀ q', Agree n q q' → BP (q'.h n) (q'.i n) (q'.i (n + 1)) (q'.i (n + 2)) (q'.i (n + 3)) (numB z.toNat) 10 → K q') :
    rnumS.pre [.int .u64 z] [] [] ∧ ∀ q', Agree n q q' → (∃ F, rnumS.post [.int .u64 z] [] [] (.slice (slP (q'.i n) (q'.i (n + 1))) (q'.i (n + 2)).toNat (q'.i (n + 3)).toNat) [] F ∧ (True → q'.h n = F) ∧ cpNorms n [.one .sl] q') → K q' := by
  refine ⟨⟨z, rfl, hz⟩, fun q' g ⟨F, ⟨z', hz', hO⟩, hF, hn⟩ => k q' g ?_⟩
  simp only [List.cons.injEq, Value.int.injEq, true_and, and_true] at hz'
  subst hz'
  exact bp_of hO hF hn (lenB (by omega))
end
/-- The end of a walk that yields bytes of its own. -/
theorem bp_shape {q : Env} {x l c : Int} {X L C : E} (hX : iev q X = x) (hL : iev q L = l) (hC : iev q C = c) (rx : -1 ≤ x) (rl : 0 ≤ l) (rc : 0 ≤ c) : ∃ ρ2, (TV.sv (.one (.sl X (.lit 0) L C))).ev q = (cpTV 0 [.one .sl]).ev ρ2 ∧ cpNorms 0 [.one .sl] ρ2 :=
  ⟨⟨fun k => [x, 0, l, c].getD k 0, fun _ => false, fun _ => .empty, fun _ => .tuple #[], fun _ => Hl.none⟩, by
    show Value.slice (slP (iev q X) 0) (iev q L).toNat (iev q C).toNat = .slice (slP x 0) l.toNat c.toNat
    rw [hX, hL, hC], ⟨⟨rx, Int.le_refl _, rl, rc⟩, trivial⟩⟩
/-! ### text -/
def rtextS : Sx.Spec where
  fn := 57
  own := []
  rd := [0]
  res := [.one .sl]
  pre := fun xs Hs Rs => ∃ u R b, xs = [u] ∧ Rs = [R] ∧ RdW R u b ∧ b.length ≤ 90000
  post := fun xs Hs Rs v Hs' F => ∃ u R b, xs = [u] ∧ Rs = [R] ∧ RdW R u b ∧ OwB F 5 v (textBytes b)
def rtextNd : Nd := .and (.e (.le (.lit 0) (.var 2))) (.and (.pre (.call 0 5 [.sv (.one (.int .u64 (.wrap .u64 (.var 2))))] [] [])) (.ext (.call 0 5 [.sv (.one (.int .u64 (.wrap .u64 (.var 2))))] [] []) (.and (.pre (.app 9 5 1 1 (.sl (.var 5) (.var 6) (.var 7) (.var 8)) (.var 7) (.hp 5 [] [.var 5] []) (.seg 4 (.var 0) (.var 1) (.var 2)))) (.ext (.app 9 5 1 1 (.sl (.var 5) (.var 6) (.var 7) (.var 8)) (.var 7) (.hp 5 [] [.var 5] []) (.seg 4 (.var 0) (.var 1) (.var 2))) (.post [.ro 4 [.var 0] false, .hp 9 [5] [.var 9, .var 5] []] (.sv (.one (.sl (.var 9) (.lit 0) (.add (.var 7) (.var 2)) (.var 10)))))))))
def rtextW : Walk Try.prog [rnumS] 57 where
  Λ := noLoops
  args := [.sv (.one (.sl (.var 0) (.var 1) (.var 2) (.var 3)))]
  mem := [.ro 4 [.var 0] false]
  nv := 5
  nd := rtextNd
  ok := by kernel_rfl
theorem rtg0 {l : List Sx.Spec} : (rnumS :: l)[0]? = some rnumS := rfl
theorem rtextS_ok : rtextS.OK Try.prog := by
  refine Spec.of_fn (Γ := [rnumS]) (fun t ht => by rw [List.mem_singleton] at ht; subst ht; exact rnumS_ok) ?_
  rintro xs Hs Rs hl1 hl2 ⟨u, R, b, rfl, rfl, hR, hb⟩
  have e0 : Hs = [] := List.length_eq_zero_iff.1 hl1
  subst e0
  obtain ⟨x, y, c, rfl, hy, _⟩ := id hR
  refine ⟨rtextW, envI [x, y, b.length, c] false [Hl.none, Hl.none, Hl.none, Hl.none, R], fun _ _ => True, fun _ _ => 0, ?_, ⟨?_, ?_, ?_, ?_⟩, (fun _ h => nomatch h), ?_⟩
  · show [Value.slice (slP x y) ((b.length : Int)).toNat ((c : Int)).toNat] = _
    rw [Int.toNat_natCast, Int.toNat_natCast]
  · intro r hr ho; simp [rtextW] at hr; subst hr; cases ho
  · intro r hr ho; simp [rtextW] at hr; subst hr; exact ⟨R, by simp, Hl.le_refl _⟩
  · simp [rtextW]
  · intro r hr; simp [rtextW] at hr; subst hr; trivial
  · show Nd.holds _ _ _ rtextNd
    generalize hρ : envI [x, y, b.length, c] false [Hl.none, Hl.none, Hl.none, Hl.none, R] = ρ
    have v0 : ρ.i 0 = x := by rw [← hρ]; rfl
    have v1 : ρ.i 1 = y := by rw [← hρ]; rfl
    have v2 : ρ.i 2 = b.length := by rw [← hρ]; rfl
    have v3 : ρ.i 3 = c := by rw [← hρ]; rfl
    have w4 : ρ.h 4 = R := by rw [← hρ]; rfl
    clear hρ
    have hS : SP (ρ.h 4) (ρ.i 0) (ρ.i 1) (ρ.i 2) (ρ.i 3) b 90000 := by
      rw [v0, v1, v2, v3, w4]
      exact ⟨by rw [Int.toNat_natCast, Int.toNat_natCast]; exact hR, by omega, hy, hb⟩
    unfold rtextNd
    simp only [Nd.holds, X.pre, X.rel, X.n, Src.ok, Src.len, Src.vals, true_and, and_true, if_true, Nat.mul_one, Nat.add_zero, Nat.reduceAdd, List.length_cons, List.length_nil, bT_tt, bT_ff, bT_bvar, bT_not, bT_and, bT_or, bT_ite, bT_lt, bT_le, bT_eq, bT_beq, bT_seq, bT_hB, bT_his, bT_hby, bT_hism, bT_hks, iev_lit, iev_var, iev_add, iev_sub, iev_mul, iev_wrap, iev_ite, iev_hI, iev_hP, iev_hmlen, sev_ite, sev_slit, sev_sof, sev_svar, TV.ev, SV.ev, CV.ev, List.map_cons, List.map_nil, Res.hl, cpTV, Cp.sv, Ck.cv, cpSVs, Cp.len, Ck.len, newHs_zero, newHs_one, roots_ne, rtg0, rcr0, rcc0]
    have ew : IntKind.u64.wrap (ρ.i 2) = (b.length : Int) := by rw [v2, wu64 (by omega) (by omega)]
    rw [ew]
    refine ⟨by omega, rnumB ⟨by omega, by omega⟩ fun q1 g1 P1 => ?_⟩
    simp only [g1.i, g1.h, Nat.reduceLT]
    refine segB P1 hS (by omega) fun q2 g2 P2 => ?_
    intro _
    refine ⟨[], [1], rfl, rfl, bp_shape rfl rfl rfl P2.rx (by
      show 0 ≤ q2.i 7 + q2.i 2
      rw [g2.i 7 (by omega), g2.i 2 (by omega), g1.i 2 (by omega), P1.l, v2]; omega) P2.rc, _, R, b, rfl, rfl, hR, ?_⟩
    show OwB (hls [q2.h 9]) _ (.slice (slP (q2.i 9) 0) (q2.i 7 + q2.i 2).toNat (q2.i 10).toNat) _
    rw [hls_one, g2.i 7 (by omega), g2.i 2 (by omega), g1.i 2 (by omega)]
    exact P2.own
end Go.Proofs.Ytkdllpialpfopaa
