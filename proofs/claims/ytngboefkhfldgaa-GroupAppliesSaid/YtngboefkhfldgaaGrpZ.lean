/- Layers 16, 17: the document's Few, Formed and Apply as contracts: Formed and Apply answer as the program's. No condition. -/
import Derived.Test.YtngboefkhfldgaaGrpX
set_option linter.unusedSimpArgs false
set_option linter.unusedVariables false
set_option linter.constructorNameAsVariable false
namespace Go.Proofs.Ytngboefkhfldgaa.V2
open Go Go.Sx

/-! ### Few: it answers -/
def fewS : Sx.Spec where
  fn := 16
  own := []
  rd := []
  res := [.one .bool]
  pre := fun xs Hs Rs => ∃ q, cpNormsW 0 [.agg ck2] q ∧ xs = inVs [.agg ck2] q
  post := fun xs Hs Rs v Hs' F => True
def fewNd : Nd := .ext (.alloc 31) (.and (.e (.le (.lit 0) (.var 5))) (.and (.imp (.lt (.lit 200) (.var 5)) (.post [.dead] (.sv (.one (.bool .ff))))) (.imp (.not (.lt (.lit 200) (.var 5))) (.and (.e (.le (.lit 0) (.var 9))) (.and (.imp (.lt (.lit 200) (.var 9)) (.post [.dead] (.sv (.one (.bool .ff))))) (.imp (.not (.lt (.lit 200) (.var 9))) (.and (.e (.le (.lit 0) (.var 13))) (.and (.imp (.lt (.lit 200) (.var 13)) (.post [.dead] (.sv (.one (.bool .ff))))) (.imp (.not (.lt (.lit 200) (.var 13))) (.and (.e (.le (.lit 0) (.var 17))) (.and (.imp (.lt (.lit 200) (.var 17)) (.post [.dead] (.sv (.one (.bool .ff))))) (.imp (.not (.lt (.lit 200) (.var 17))) (.and (.e (.le (.lit 0) (.var 21))) (.and (.imp (.lt (.lit 200) (.var 21)) (.post [.dead] (.sv (.one (.bool .ff))))) (.imp (.not (.lt (.lit 200) (.var 21))) (.and (.e (.le (.lit 0) (.var 25))) (.and (.imp (.lt (.lit 200) (.var 25)) (.post [.dead] (.sv (.one (.bool .ff))))) (.imp (.not (.lt (.lit 200) (.var 25))) (.and (.e (.le (.lit 0) (.var 29))) (.post [.dead] (.sv (.one (.bool (.le (.var 29) (.lit 200)))))))))))))))))))))))))
def fewW : Walk Try.prog [] 16 where
  Λ := noLoops
  args := (cpSVs 0 [.agg ck2]).map .sv
  mem := []
  nv := 31
  nd := fewNd
  ok := by kernel_rfl
theorem fewS_ok : fewS.OK Try.prog := by
  refine Spec.of_fn (Γ := []) (fun t ht => nomatch ht) ?_
  rintro xs Hs Rs hl1 hl2 ⟨q, hq, rfl⟩
  have e0 : Hs = [] := List.length_eq_zero_iff.1 hl1
  have e1 : Rs = [] := List.length_eq_zero_iff.1 hl2
  subst e0; subst e1
  refine ⟨fewW, q, fun _ _ => True, fun _ _ => 0, rfl, ⟨?_, ?_, ?_, ?_⟩, (fun _ h => nomatch h), ?_⟩
  · intro r hr; simp [fewW] at hr
  · intro r hr; simp [fewW] at hr
  · simp [fewW]
  · intro r hr; simp [fewW] at hr
  · show Nd.holds _ _ _ fewNd
    unfold fewNd
    have l5 : 0 ≤ q.i 5 := hq.1.2.2.2.1.2.2.1
    have l9 : 0 ≤ q.i 9 := hq.1.2.2.2.2.1.2.2.1
    have l13 : 0 ≤ q.i 13 := hq.1.2.2.2.2.2.1.2.2.1
    have l17 : 0 ≤ q.i 17 := hq.1.2.2.2.2.2.2.1.2.2.1
    have l21 : 0 ≤ q.i 21 := hq.1.2.2.2.2.2.2.2.1.2.2.1
    have l25 : 0 ≤ q.i 25 := hq.1.2.2.2.2.2.2.2.2.1.2.2.1
    have l29 : 0 ≤ q.i 29 := hq.1.2.2.2.2.2.2.2.2.2.1.2.2.1
    have fin : ∀ (ρ : Env) (mem : Mem) (e : E), postOf fewS (inVs [.agg ck2] q) [] [] ρ mem (.sv (.one (.bool e))) := fun ρ mem e _ =>
      ⟨[], [], rfl, rfl, shape_bool _, trivial⟩
    simp only [Nd.holds, X.pre, X.rel, X.n, bT_tt, bT_ff, bT_bvar, bT_not, bT_and, bT_or, bT_ite, bT_lt, bT_le, bT_eq, bT_beq, bT_seq, bT_hB, bT_his, bT_hby, bT_hism, bT_hks, iev_lit, iev_var, iev_rem, iev_quo, iev_add, iev_sub, iev_mul, iev_wrap, iev_ite, iev_hI, iev_hP, iev_hmlen, sev_ite, sev_slit, sev_sof, sev_svar]
    intro q1 g1 _
    rw [g1.i 5 (by omega), g1.i 9 (by omega), g1.i 13 (by omega), g1.i 17 (by omega), g1.i 21 (by omega), g1.i 25 (by omega), g1.i 29 (by omega)]
    exact ⟨l5, fun _ => fin _ _ _, fun _ => ⟨l9, fun _ => fin _ _ _, fun _ => ⟨l13, fun _ => fin _ _ _, fun _ => ⟨l17, fun _ => fin _ _ _, fun _ => ⟨l21, fun _ => fin _ _ _, fun _ => ⟨l25, fun _ => fin _ _ _, fun _ => ⟨l29, fin _ _ _⟩⟩⟩⟩⟩⟩⟩

/-! ### Formed -/
def refCFormedS : Sx.Spec := pureS 29 [.agg ck2] [.one .bool] (fun _ => True) cFormedG
def rFormedNd : Nd := .ext (.alloc 31) (.and (.inv 0 [⟨41, 0, .int .i64 (.lit 0)⟩, ⟨40, 0, .int .i64 (.lit 0)⟩] []) (.havoc 0 0 32 (.and (.imp (.lt (.var 40) (.lit 6)) (.and (.e (.le (.lit 0) (.var 40))) (.and (.e (.le (.lit 0) (.ite (.eq (.var 40) (.lit 0)) (.var 5) (.ite (.eq (.var 40) (.lit 1)) (.var 9) (.ite (.eq (.var 40) (.lit 2)) (.var 13) (.ite (.eq (.var 40) (.lit 3)) (.var 17) (.ite (.eq (.var 40) (.lit 4)) (.var 21) (.var 25)))))))) (.and (.imp (.not (.eq (.ite (.eq (.var 40) (.lit 0)) (.var 5) (.ite (.eq (.var 40) (.lit 1)) (.var 9) (.ite (.eq (.var 40) (.lit 2)) (.var 13) (.ite (.eq (.var 40) (.lit 3)) (.var 17) (.ite (.eq (.var 40) (.lit 4)) (.var 21) (.var 25)))))) (.lit 0))) (.and (.imp (.not (.eq (.ite (.eq (.var 40) (.lit 0)) (.var 5) (.ite (.eq (.var 40) (.lit 1)) (.var 9) (.ite (.eq (.var 40) (.lit 2)) (.var 13) (.ite (.eq (.var 40) (.lit 3)) (.var 17) (.ite (.eq (.var 40) (.lit 4)) (.var 21) (.var 25)))))) (.lit 48))) (.post [.dead] (.sv (.one (.bool .ff))))) (.imp (.eq (.ite (.eq (.var 40) (.lit 0)) (.var 5) (.ite (.eq (.var 40) (.lit 1)) (.var 9) (.ite (.eq (.var 40) (.lit 2)) (.var 13) (.ite (.eq (.var 40) (.lit 3)) (.var 17) (.ite (.eq (.var 40) (.lit 4)) (.var 21) (.var 25)))))) (.lit 48)) (.back 0 0 [⟨41, 0, .int .i64 (.wrap .i64 (.add (.var 41) (.ite (.eq (.var 40) (.lit 0)) (.var 5) (.ite (.eq (.var 40) (.lit 1)) (.var 9) (.ite (.eq (.var 40) (.lit 2)) (.var 13) (.ite (.eq (.var 40) (.lit 3)) (.var 17) (.ite (.eq (.var 40) (.lit 4)) (.var 21) (.var 25))))))))⟩, ⟨40, 0, .int .i64 (.wrap .i64 (.add (.var 40) (.lit 1)))⟩] [])))) (.imp (.eq (.ite (.eq (.var 40) (.lit 0)) (.var 5) (.ite (.eq (.var 40) (.lit 1)) (.var 9) (.ite (.eq (.var 40) (.lit 2)) (.var 13) (.ite (.eq (.var 40) (.lit 3)) (.var 17) (.ite (.eq (.var 40) (.lit 4)) (.var 21) (.var 25)))))) (.lit 0)) (.back 0 0 [⟨41, 0, .int .i64 (.wrap .i64 (.add (.var 41) (.ite (.eq (.var 40) (.lit 0)) (.var 5) (.ite (.eq (.var 40) (.lit 1)) (.var 9) (.ite (.eq (.var 40) (.lit 2)) (.var 13) (.ite (.eq (.var 40) (.lit 3)) (.var 17) (.ite (.eq (.var 40) (.lit 4)) (.var 21) (.var 25))))))))⟩, ⟨40, 0, .int .i64 (.wrap .i64 (.add (.var 40) (.lit 1)))⟩] [])))))) (.imp (.not (.lt (.var 40) (.lit 6))) (.and (.imp (.not (.eq (.var 0) (.lit 2))) (.and (.imp (.not (.eq (.var 0) (.lit 3))) (.and (.imp (.not (.lt (.var 0) (.lit 1))) (.and (.imp (.not (.lt (.lit 5) (.var 0))) (.and (.imp (.eq (.var 0) (.lit 5)) (.and (.imp (.not (.lt (.var 1) (.lit 1))) (.and (.imp (.not (.lt (.lit 6) (.var 1))) (.and (.imp (.eq (.var 41) (.lit 0)) (.and (.e (.le (.lit 0) (.var 29))) (.and (.imp (.eq (.var 29) (.lit 48)) (.post [.dead] (.sv (.one (.bool (.eq (.var 2) (.lit 0))))))) (.imp (.not (.eq (.var 29) (.lit 48))) (.post [.dead] (.sv (.one (.bool .ff)))))))) (.imp (.not (.eq (.var 41) (.lit 0))) (.post [.dead] (.sv (.one (.bool .ff))))))) (.imp (.lt (.lit 6) (.var 1)) (.post [.dead] (.sv (.one (.bool .ff))))))) (.imp (.lt (.var 1) (.lit 1)) (.post [.dead] (.sv (.one (.bool .ff))))))) (.imp (.not (.eq (.var 0) (.lit 5))) (.and (.imp (.not (.eq (.var 1) (.lit 0))) (.post [.dead] (.sv (.one (.bool .ff))))) (.imp (.eq (.var 1) (.lit 0)) (.and (.imp (.lt (.lit 0) (.var 41)) (.and (.e (.le (.lit 0) (.var 29))) (.and (.imp (.eq (.var 29) (.lit 0)) (.and (.imp (.not (.eq (.var 2) (.lit 0))) (.post [.dead] (.sv (.one (.bool .ff))))) (.imp (.eq (.var 2) (.lit 0)) (.post [.dead] (.sv (.one (.bool .tt))))))) (.imp (.not (.eq (.var 29) (.lit 0))) (.post [.dead] (.sv (.one (.bool .ff)))))))) (.imp (.not (.lt (.lit 0) (.var 41))) (.post [.dead] (.sv (.one (.bool .ff))))))))))) (.imp (.lt (.lit 5) (.var 0)) (.post [.dead] (.sv (.one (.bool .ff))))))) (.imp (.lt (.var 0) (.lit 1)) (.post [.dead] (.sv (.one (.bool .ff))))))) (.imp (.eq (.var 0) (.lit 3)) (.and (.imp (.not (.lt (.var 1) (.lit 1))) (.and (.imp (.not (.lt (.lit 6) (.var 1))) (.and (.imp (.lt (.lit 0) (.var 41)) (.and (.e (.le (.lit 0) (.var 29))) (.and (.imp (.eq (.var 29) (.lit 0)) (.and (.imp (.not (.eq (.var 2) (.lit 0))) (.post [.dead] (.sv (.one (.bool (.le (.var 2) (.lit 1048576))))))) (.imp (.eq (.var 2) (.lit 0)) (.post [.dead] (.sv (.one (.bool .tt))))))) (.imp (.not (.eq (.var 29) (.lit 0))) (.post [.dead] (.sv (.one (.bool .ff)))))))) (.imp (.not (.lt (.lit 0) (.var 41))) (.post [.dead] (.sv (.one (.bool .ff))))))) (.imp (.lt (.lit 6) (.var 1)) (.post [.dead] (.sv (.one (.bool .ff))))))) (.imp (.lt (.var 1) (.lit 1)) (.post [.dead] (.sv (.one (.bool .ff))))))))) (.imp (.eq (.var 0) (.lit 2)) (.and (.imp (.not (.lt (.var 1) (.lit 1))) (.and (.imp (.not (.lt (.lit 6) (.var 1))) (.and (.imp (.lt (.lit 0) (.var 41)) (.and (.e (.le (.lit 0) (.var 29))) (.and (.imp (.eq (.var 29) (.lit 0)) (.and (.imp (.not (.eq (.var 2) (.lit 0))) (.post [.dead] (.sv (.one (.bool .ff))))) (.imp (.eq (.var 2) (.lit 0)) (.post [.dead] (.sv (.one (.bool .tt))))))) (.imp (.not (.eq (.var 29) (.lit 0))) (.post [.dead] (.sv (.one (.bool .ff)))))))) (.imp (.not (.lt (.lit 0) (.var 41))) (.post [.dead] (.sv (.one (.bool .ff))))))) (.imp (.lt (.lit 6) (.var 1)) (.post [.dead] (.sv (.one (.bool .ff))))))) (.imp (.lt (.var 1) (.lit 1)) (.post [.dead] (.sv (.one (.bool .ff))))))))))))
def rFormedW : Walk Try.prog [] 29 where
  Λ := fun p => if lp p then some ⟨0, [(4, TI .i64 (.var 40)), (3, TI .i64 (.var 41))], [], 42⟩ else none
  args := (cpSVs 0 [.agg ck2]).map .sv
  mem := []
  nv := 31
  nd := rFormedNd
  ok := by kernel_rfl
theorem refCFormedS_ok : refCFormedS.OK Try.prog := by
  refine pure_of (fun t h => by cases h) rFormedW rfl rfl rfl (fun q _ _ => ?_) (fun q hq _ => ?_)
  · exact shape_bool _
  · have l5 : 0 ≤ q.i 5 := hq.1.2.2.2.1.2.2.1
    have l9 : 0 ≤ q.i 9 := hq.1.2.2.2.2.1.2.2.1
    have l13 : 0 ≤ q.i 13 := hq.1.2.2.2.2.2.1.2.2.1
    have l17 : 0 ≤ q.i 17 := hq.1.2.2.2.2.2.2.1.2.2.1
    have l21 : 0 ≤ q.i 21 := hq.1.2.2.2.2.2.2.2.1.2.2.1
    have l25 : 0 ≤ q.i 25 := hq.1.2.2.2.2.2.2.2.2.1.2.2.1
    have l29 : 0 ≤ q.i 29 := hq.1.2.2.2.2.2.2.2.2.2.1.2.2.1
    have eG : cFormedG (inVs [.agg ck2] q) = .bool (cFormedF (q.i 0) (q.i 1) (q.i 2) (cLs q) (q.i 29)) := by
      show Value.bool (cFormedF (q.i 0) (q.i 1) (q.i 2) [((q.i 5).toNat : Int), ((q.i 9).toNat : Int), ((q.i 13).toNat : Int), ((q.i 17).toNat : Int), ((q.i 21).toNat : Int), ((q.i 25).toNat : Int)] ((q.i 29).toNat : Int)) = _
      rw [Int.toNat_of_nonneg l5, Int.toNat_of_nonneg l9, Int.toNat_of_nonneg l13, Int.toNat_of_nonneg l17, Int.toNat_of_nonneg l21, Int.toNat_of_nonneg l25, Int.toNat_of_nonneg l29]; rfl
    refine ⟨fun _ r => ∃ k : Nat, k ≤ 6 ∧ r.i 40 = k ∧ 0 ≤ r.i 41 ∧ r.i 41 ≤ 48 * k ∧ ((cLs q).take k).any (fun n => decide (0 < n)) = decide (0 < r.i 41) ∧ ((cLs q).take k).all (fun n => slotF n false) = true, fun _ r => (6 - r.i 40).toNat, ?_⟩
    simp only [eG]
    show Nd.holds _ _ _ rFormedNd
    unfold rFormedNd
    simp only [Nd.holds, X.pre, X.rel, X.n, Src.ok, Src.len, Src.vals, true_and, and_true, if_true, Nat.mul_one, Nat.add_zero, Nat.reduceAdd, List.length_cons, List.length_nil, bT_tt, bT_ff, bT_bvar, bT_not, bT_and, bT_or, bT_ite, bT_lt, bT_le, bT_eq, bT_beq, bT_seq, bT_hB, bT_his, bT_hby, bT_hism, bT_hks, iev_lit, iev_var, iev_rem, iev_quo, iev_add, iev_sub, iev_mul, iev_wrap, iev_ite, iev_hI, iev_hP, iev_hmlen, sev_ite, sev_slit, sev_sof, sev_svar, TV.ev, SV.ev, CV.ev, List.map_cons, List.map_nil, Res.hl, Value.bool.injEq]
    have nth : ∀ k : Nat, k < 6 → (cLs q)[k]? = some (q.i (5 + 4 * k)) := by
      intro k hk
      match k, hk with
      | 0, _ => rfl
      | 1, _ => rfl
      | 2, _ => rfl
      | 3, _ => rfl
      | 4, _ => rfl
      | 5, _ => rfl
      | n + 6, h => omega
    have pos : ∀ k : Nat, k < 6 → 0 ≤ q.i (5 + 4 * k) := by
      intro k hk
      match k, hk with
      | 0, _ => exact l5
      | 1, _ => exact l9
      | 2, _ => exact l13
      | 3, _ => exact l17
      | 4, _ => exact l21
      | 5, _ => exact l25
      | n + 6, h => omega
    have sel : ∀ (q2 : Env), Agree 31 q q2 → ∀ k : Nat, k < 6 → ∀ (n : Int), n = k →
        (if n = 0 then q2.i 5 else if n = 1 then q2.i 9 else if n = 2 then q2.i 13 else if n = 3 then q2.i 17 else if n = 4 then q2.i 21 else q2.i 25) = q.i (5 + 4 * k) := by
      intro q2 g k hk n hn
      subst hn
      match k, hk with
      | 0, _ => exact g.i _ (by omega)
      | 1, _ => exact g.i _ (by omega)
      | 2, _ => exact g.i _ (by omega)
      | 3, _ => exact g.i _ (by omega)
      | 4, _ => exact g.i _ (by omega)
      | 5, _ => exact g.i _ (by omega)
      | n + 6, h => omega
    refine fun q1 g1 _ => ⟨⟨0, by omega, rfl, by show (0 : Int) ≤ 0; omega, by show (0 : Int) ≤ 0; omega, rfl, rfl⟩, ?_⟩
    intro q2 g2 ⟨k, hk, e40, n41, m41, hany, hall⟩
    have G : Agree 31 q q2 := g1.trans (g2.mono (by omega))
    refine ⟨fun hlt => ?_, fun hge => ?_⟩
    · have h6 : k < 6 := by omega
      have s0 := sel q2 G k h6 _ e40
      have ft : (cLs q).take (k + 1) = (cLs q).take k ++ [q.i (5 + 4 * k)] := by rw [List.take_add_one, nth k h6]; rfl
      have hp := pos k h6
      generalize hL : q.i (5 + 4 * k) = L at s0 ft hp
      have bad : L ≠ 0 → L ≠ 48 → cFormedF (q.i 0) (q.i 1) (q.i 2) (cLs q) (q.i 29) = false := fun h0 h48 => by
        have : (cLs q).all (fun n => slotF n false) = false := by
          rw [List.all_eq_false]
          exact ⟨_, List.mem_of_getElem? (nth k h6), by rw [hL]; simp [slotF, h0, h48]⟩
        unfold cFormedF
        simp only [this, Bool.false_and]
      have step : ∀ e : E, iev q2 e = L → (L = 0 ∨ L = 48) → (∃ k : Nat, k ≤ 6 ∧ IntKind.i64.wrap (q2.i 40 + 1) = k ∧ 0 ≤ IntKind.i64.wrap (q2.i 41 + iev q2 e) ∧ IntKind.i64.wrap (q2.i 41 + iev q2 e) ≤ 48 * k ∧ ((cLs q).take k).any (fun n => decide (0 < n)) = decide (0 < IntKind.i64.wrap (q2.i 41 + iev q2 e)) ∧ ((cLs q).take k).all (fun n => slotF n false) = true) ∧ (6 - IntKind.i64.wrap (q2.i 40 + 1)).toNat < (6 - q2.i 40).toNat := by
        intro e he hL2
        have w : IntKind.i64.wrap (q2.i 40 + 1) = k + 1 := by rw [e40]; exact wrap_i64 (by omega) (by omega)
        have w2 : IntKind.i64.wrap (q2.i 41 + L) = q2.i 41 + L := wrap_i64 (by omega) (by omega)
        rw [he, w, w2]
        refine ⟨⟨k + 1, by omega, rfl, by omega, by omega, ?_, ?_⟩, by omega⟩
        · rw [ft, List.any_append, hany]
          simp only [List.any_cons, List.any_nil, Bool.or_false]
          rcases hL2 with h | h
          · subst h; simp
          · subst h; simp; omega
        · rw [ft, List.all_append, hall]
          rcases hL2 with h | h <;> subst h <;> rfl
      simp only [s0]
      refine ⟨by omega, hp, fun hn0 => ⟨fun hn48 => ?_, fun h48 => ?_⟩, fun h0 => ?_⟩
      · rw [bad hn0 hn48]; rfl
      · exact step _ (by simp only [iev_lit, iev_var, iev_rem, iev_quo, iev_add, iev_sub, iev_mul, iev_wrap, iev_ite, iev_hI, iev_hP, iev_hmlen, sev_ite, sev_slit, sev_sof, sev_svar, bT_tt, bT_ff, bT_bvar, bT_not, bT_and, bT_or, bT_ite, bT_lt, bT_le, bT_eq, bT_beq, bT_seq, bT_hB, bT_his, bT_hby, bT_hism, bT_hks]; exact s0) (Or.inr h48)
      · exact step _ (by simp only [iev_lit, iev_var, iev_rem, iev_quo, iev_add, iev_sub, iev_mul, iev_wrap, iev_ite, iev_hI, iev_hP, iev_hmlen, sev_ite, sev_slit, sev_sof, sev_svar, bT_tt, bT_ff, bT_bvar, bT_not, bT_and, bT_or, bT_ite, bT_lt, bT_le, bT_eq, bT_beq, bT_seq, bT_hB, bT_his, bT_hby, bT_hism, bT_hks]; exact s0) (Or.inl h0)
    · have hk6 : k = 6 := by omega
      subst hk6
      have ft : (cLs q).take 6 = cLs q := rfl
      rw [ft] at hany hall
      have i0 : q2.i 0 = q.i 0 := G.i 0 (by omega)
      have i1 : q2.i 1 = q.i 1 := G.i 1 (by omega)
      have i2 : q2.i 2 = q.i 2 := G.i 2 (by omega)
      have i29 : q2.i 29 = q.i 29 := G.i 29 (by omega)
      unfold cFormedF
      rw [hall, hany, i0, i1, i2, i29]
      simp only [Bool.true_and, bev_ff, bev_tt, bev_eq, bev_le, iev_var, iev_lit, i2]
      generalize q2.i 41 = n at *
      generalize q.i 0 = op
      generalize q.i 1 = m
      generalize q.i 2 = cut
      generalize q.i 29 = hd at *
      clear sel nth pos hall hany ft hq eG G g1 g2 i0 i1 i2 i29 l5 l9 l13 l17 l21 l25 hge e40 hk
      repeat' (first | apply And.intro | intro _)
      all_goals try omega
      all_goals (first | (simp_all; done) | (simp_all; omega) | (split <;> simp_all <;> omega))

/-! ### Apply -/
noncomputable def refApplyS : Sx.Spec := { applyS HdrOK hForm with fn := 18 }
noncomputable def rapΓ : List Sx.Spec := [refFormS, refCFormedS, refMayS2, refBehindS2]
set_option maxHeartbeats 4000000 in
def rapplyNd : Nd := .ext (.alloc 181) (.ext (.alloc 182) (.ext (.alloc 183) (.ext (.alloc 184) (.and (.pre (.call 0 185 [.sv (.agg (Sx.ckCVs 21 hk2))] [] [.ro 180 [] true])) (.ext (.call 0 185 [.sv (.agg (Sx.ckCVs 21 hk2))] [] [.ro 180 [] true]) (.and (.imp (.bvar 185) (.and (.imp (.bvar 56) (.and (.pre (.call 1 186 [.sv (.agg (Sx.ckCVs 149 ck2))] [] [])) (.ext (.call 1 186 [.sv (.agg (Sx.ckCVs 149 ck2))] [] []) (.and (.imp (.not (.bvar 186)) (.post [.ro 180 [] true, .dead, .dead, .dead, .dead] (.tup [.agg z21, .one (.int .i64 (.lit 1))]))) (.imp (.bvar 186) (.and (.pre (.call 2 187 [.sv (.agg (Sx.ckCVs 0 gk2)), .sv (.one (.int .i64 (.var 21))), .sv (.one (.int .i64 (.var 149))), .sv (.one (.int .i64 (.var 150)))] [] [])) (.ext (.call 2 187 [.sv (.agg (Sx.ckCVs 0 gk2)), .sv (.one (.int .i64 (.var 21))), .sv (.one (.int .i64 (.var 149))), .sv (.one (.int .i64 (.var 150)))] [] []) (.and (.imp (.not (.eq (.var 187) (.lit 0))) (.post [.ro 180 [] true, .dead, .dead, .dead, .dead] (.tup [.agg z21, .one (.int .i64 (.var 187))]))) (.imp (.eq (.var 187) (.lit 0)) (.and (.pre (.call 3 188 [.sv (.agg (Sx.ckCVs 0 gk2)), .sv (.one (.int .i64 (.var 21))), .sv (.one (.int .i64 (.var 149))), .sv (.one (.int .i64 (.var 150))), .sv (.one (.int .u64 (.var 151)))] [] [])) (.ext (.call 3 188 [.sv (.agg (Sx.ckCVs 0 gk2)), .sv (.one (.int .i64 (.var 21))), .sv (.one (.int .i64 (.var 149))), .sv (.one (.int .i64 (.var 150))), .sv (.one (.int .u64 (.var 151)))] [] []) (.ext (.alloc 209) (.and (.inv 0 [⟨220, 0, .int .i64 (.lit 0)⟩] []) (.havoc 0 0 210 (.and (.imp (.lt (.var 220) (.lit 6)) (.and (.imp (.not (.eq (.var 149) (.lit 5))) (.and (.e (.le (.lit 0) (.var 220))) (.and (.e (.le (.lit 0) (.ite (.eq (.var 220) (.lit 0)) (.var 154) (.ite (.eq (.var 220) (.lit 1)) (.var 158) (.ite (.eq (.var 220) (.lit 2)) (.var 162) (.ite (.eq (.var 220) (.lit 3)) (.var 166) (.ite (.eq (.var 220) (.lit 4)) (.var 170) (.var 174)))))))) (.and (.imp (.not (.beq (.ite (.eq (.var 220) (.lit 0)) (.bvar 190) (.ite (.eq (.var 220) (.lit 1)) (.bvar 191) (.ite (.eq (.var 220) (.lit 2)) (.bvar 192) (.ite (.eq (.var 220) (.lit 3)) (.bvar 193) (.ite (.eq (.var 220) (.lit 4)) (.bvar 194) (.bvar 195)))))) (.eq (.ite (.eq (.var 220) (.lit 0)) (.var 154) (.ite (.eq (.var 220) (.lit 1)) (.var 158) (.ite (.eq (.var 220) (.lit 2)) (.var 162) (.ite (.eq (.var 220) (.lit 3)) (.var 166) (.ite (.eq (.var 220) (.lit 4)) (.var 170) (.var 174)))))) (.lit 48)))) (.post [.ro 180 [] true, .dead, .dead, .dead, .dead, .dead] (.tup [.agg z21, .one (.int .i64 (.lit 2))]))) (.imp (.beq (.ite (.eq (.var 220) (.lit 0)) (.bvar 190) (.ite (.eq (.var 220) (.lit 1)) (.bvar 191) (.ite (.eq (.var 220) (.lit 2)) (.bvar 192) (.ite (.eq (.var 220) (.lit 3)) (.bvar 193) (.ite (.eq (.var 220) (.lit 4)) (.bvar 194) (.bvar 195)))))) (.eq (.ite (.eq (.var 220) (.lit 0)) (.var 154) (.ite (.eq (.var 220) (.lit 1)) (.var 158) (.ite (.eq (.var 220) (.lit 2)) (.var 162) (.ite (.eq (.var 220) (.lit 3)) (.var 166) (.ite (.eq (.var 220) (.lit 4)) (.var 170) (.var 174)))))) (.lit 48))) (.back 0 0 [⟨220, 0, .int .i64 (.wrap .i64 (.add (.var 220) (.lit 1)))⟩] [])))))) (.imp (.eq (.var 149) (.lit 5)) (.back 0 0 [⟨220, 0, .int .i64 (.wrap .i64 (.add (.var 220) (.lit 1)))⟩] [])))) (.imp (.not (.lt (.var 220) (.lit 6))) (.post [.ro 180 [] true, .dead, .dead, .dead, .dead, .dead] (.tup [.agg (Sx.ckCVs 188 gk2), .one (.int .i64 (.lit 0))])))))))))))))))))) (.imp (.not (.bvar 56)) (.post [.ro 180 [] true, .dead, .dead, .dead, .dead] (.tup [.agg z21, .one (.int .i64 (.lit 1))]))))) (.imp (.not (.bvar 185)) (.post [.ro 180 [] true, .dead, .dead, .dead, .dead] (.tup [.agg z21, .one (.int .i64 (.lit 1))])))))))))
noncomputable def rapplyW : Walk Try.prog rapΓ 18 where
  Λ := fun p => if lp p then some ⟨0, [(10, TI .i64 (.var 220))], [], 221⟩ else none
  args := (cpSVs 0 apIn).map .sv
  mem := [.ro 180 [] true]
  nv := 181
  nd := rapplyNd
  ok := by kernel_rfl
theorem rg0 : rapΓ[0]? = some refFormS := rfl
theorem rg1 : rapΓ[1]? = some refCFormedS := rfl
theorem rg2 : rapΓ[2]? = some refMayS2 := rfl
theorem rg3 : rapΓ[3]? = some refBehindS2 := rfl
theorem rr0 : refFormS.res = [.one .bool] := rfl
theorem rr1 : refCFormedS.res = [.one .bool] := rfl
theorem rr2 : refMayS2.res = [.one (.int .i64)] := rfl
theorem rr3 : refBehindS2.res = [.agg gk2] := rfl
def bInv (B : Grp) (ls : List Int) (op : Int) (k : Nat) : Prop := op ≠ 5 → (List.range k).all (fun j => B.mem j == decide (0 < ls.getD j 0)) = true
def rapInv (q : Env) (_ : Nat) (r : Env) : Prop := ∃ k : Nat, r.i 220 = k ∧ k ≤ 6 ∧ bInv (behind (gOfV ((SV.agg (Sx.ckCVs 0 gk2)).ev q)) (atI ((SV.agg (Sx.ckCVs 21 hk2)).ev q) 0) (atI ((SV.agg (Sx.ckCVs 149 ck2)).ev q) 0) (atI ((SV.agg (Sx.ckCVs 149 ck2)).ev q) 1) (atI ((SV.agg (Sx.ckCVs 149 ck2)).ev q) 2)) (lsV ((SV.agg (Sx.ckCVs 149 ck2)).ev q)) (q.i 149) k
theorem slots_of {c : Value} (h : cFormedV c = true) : ∀ k : Nat, k < 6 → (lsV c).getD k 0 = 0 ∨ (lsV c).getD k 0 = 48 := by
  intro k hk
  have h : cFormedF (atI c 0) (atI c 1) (atI c 2) (lsV c) (atL c 9) = true := h
  unfold cFormedF at h
  rw [Bool.and_eq_true] at h
  have h1 := List.all_eq_true.1 h.1 ((lsV c).getD k 0) (by
    rw [List.getD_eq_getElem?_getD, List.getElem?_eq_getElem (show k < (lsV c).length from hk), Option.getD_some]
    exact List.getElem_mem _)
  unfold slotF at h1
  simp only [Bool.not_false, Bool.true_and, Bool.or_eq_true, decide_eq_true_eq] at h1
  exact h1.symm
set_option maxRecDepth 20000 in
theorem refApplyS_ok : refApplyS.OK Try.prog := by
  refine Spec.of_fn (Γ := rapΓ) (fun t ht => ?_) ?_
  · simp only [rapΓ, List.mem_cons, List.mem_nil_iff, or_false] at ht
    rcases ht with rfl | rfl | rfl | rfl
    · exact refFormS_ok
    · exact refCFormedS_ok
    · exact refMayS2_ok
    · exact refBehindS2_ok
  rintro xs Hs Rs hl1 hl2 ⟨q, R, hq, rfl, rfl, hH⟩
  have e0 : Hs = [] := List.length_eq_zero_iff.1 hl1
  subst e0
  refine ⟨rapplyW, { q with h := fun _ => R }, rapInv q, fun _ r => (6 - r.i 220).toNat, ?_, ⟨?_, ?_, ?_, ?_⟩, (fun _ h => nomatch h), ?_⟩
  · rfl
  · intro r hr ho; simp [rapplyW] at hr; subst hr; cases ho
  · intro r hr ho; simp [rapplyW] at hr; subst hr; exact ⟨R, by simp, Hl.le_refl _⟩
  · simp [rapplyW]
  · intro r hr; simp [rapplyW] at hr; subst hr; trivial
  · show Nd.holds _ _ _ rapplyNd
    unfold rapplyNd
    simp only [Nd.holds, X.pre, X.rel, X.n, rg0, rg1, rg2, rg3, rr0, rr1, rr2, rr3, newHs_zero, bT_tt, bT_ff, bT_bvar, bT_not, bT_and, bT_or, bT_ite, bT_lt, bT_le, bT_eq, bT_beq, bT_seq, bT_hB, bT_his, bT_hby, bT_hism, bT_hks, iev_lit, iev_var, iev_rem, iev_quo, iev_add, iev_sub, iev_mul, iev_wrap, iev_ite, iev_hI, iev_hP, iev_hmlen, sev_ite, sev_slit, sev_sof, sev_svar, List.map_cons, List.map_nil, List.length_nil, Nat.add_zero]
    generalize hH' : (SV.agg (Sx.ckCVs 21 hk2)).ev q = H at hH
    have hn : ckNormsW 149 ck2 q := hq.2.2.1
    have hin : inVs apIn q = [(SV.agg (Sx.ckCVs 0 gk2)).ev q, H, (SV.agg (Sx.ckCVs 149 ck2)).ev q] := by
      unfold inVs; rw [cpSVs_ap, List.map_cons, List.map_cons, List.map_cons, List.map_nil, hH']
    rw [hin]
    have fin : ∀ (ρ : Env) (mem : Mem) (r : TV) (g : Grp) (e : Int), r.ev ρ = applyV (g, e) → applyR (hForm H R) ((SV.agg (Sx.ckCVs 0 gk2)).ev q) H ((SV.agg (Sx.ckCVs 149 ck2)).ev q) = (g, e) →
        postOf (refApplyS) [(SV.agg (Sx.ckCVs 0 gk2)).ev q, H, (SV.agg (Sx.ckCVs 149 ck2)).ev q] [] [R] ρ mem r := by
      intro ρ mem r g e hr ha _
      obtain ⟨ρ2, h1, h2⟩ := shape_apply g e
      exact ⟨[], [], rfl, rfl, ⟨ρ2, by rw [hr, h1]; rfl, h2⟩, _, _, _, R, rfl, rfl, by rw [hr, ha]⟩
    have hw : q.i 21 = atI H 0 := by rw [← hH']; rfl
    have hc : q.b 56 = atB H 35 := by rw [← hH']; rfl
    intro q1 g1 _ q2 g2 _ q3 g3 _ q4 g4 _
    have G4 : Agree 181 ({ q with h := fun _ => R } : Env) q4 := ((g1.trans (g2.mono (by omega))).trans (g3.mono (by omega))).trans (g4.mono (by omega))
    have evH : ∀ r, Agree 181 ({ q with h := fun _ => R } : Env) r → (SV.agg (Sx.ckCVs 21 hk2)).ev r = H := fun r g => by
      rw [ev_ag g (by decide), ← hH']; rfl
    have evC : ∀ r, Agree 181 ({ q with h := fun _ => R } : Env) r → (SV.agg (Sx.ckCVs 149 ck2)).ev r = (SV.agg (Sx.ckCVs 149 ck2)).ev q := fun r g => by
      rw [ev_ag g (by decide)]; rfl
    have evG : ∀ r, Agree 181 ({ q with h := fun _ => R } : Env) r → (SV.agg (Sx.ckCVs 0 gk2)).ev r = (SV.agg (Sx.ckCVs 0 gk2)).ev q := fun r g => by
      rw [ev_ag g (by decide)]; rfl
    have hl : (Res.ro 180 [] true).hl q4 = R := G4.h 180 (by omega)
    simp only [TV.ev, evH q4 G4, hl]
    refine ⟨⟨H, R, rfl, rfl, hH⟩, fun q5 g5 ⟨_, ⟨h', R', hx, hR', hv⟩, _⟩ => ?_⟩
    cases hx; cases hR'
    have hv : q5.b 185 = hForm H R := Value.bool.inj hv
    have G5 : Agree 181 ({ q with h := fun _ => R } : Env) q5 := G4.trans (g5.mono (by omega))
    have b56 : q5.b 56 = atB H 35 := by rw [G5.b 56 (by omega)]; exact hc
    refine ⟨fun hfb => ⟨fun h56 => ?_, fun h56 => fin _ _ _ g0 1 rfl ?_⟩, fun hfb => fin _ _ _ g0 1 rfl ?_⟩
    · generalize hGq : (SV.agg (Sx.ckCVs 0 gk2)).ev q = Gq at fin evG
      generalize hCq : (SV.agg (Sx.ckCVs 149 ck2)).ev q = Cq at fin evC
      have c0 : q.i 149 = atI Cq 0 := by rw [← hCq]; rfl
      have c1 : q.i 150 = atI Cq 1 := by rw [← hCq]; rfl
      have c2 : q.i 151 = atI Cq 2 := by rw [← hCq]; rfl
      rw [evC q5 G5]
      refine ⟨by rw [← hCq]; exact cf_pre q hn, fun q6 g6 ⟨_, hp, _⟩ => ?_⟩
      have h6 : q6.b 186 = cFormedV Cq := Value.bool.inj hp
      clear hp
      have G6 : Agree 181 ({ q with h := fun _ => R } : Env) q6 := G5.trans (g6.mono (by omega))
      have h185 : q6.b 185 = q5.b 185 := g6.b 185 (by omega)
      have i21 : q6.i 21 = atI H 0 := (G6.i 21 (by omega)).trans hw
      have i149 : q6.i 149 = atI Cq 0 := (G6.i 149 (by omega)).trans c0
      have i150 : q6.i 150 = atI Cq 1 := (G6.i 150 (by omega)).trans c1
      have fb : ∀ b : Bool, cFormedV Cq = b → applyR (hForm H R) Gq H Cq = applyF b (gOfV Gq) (atI H 0) (atI Cq 0) (atI Cq 1) (atI Cq 2) (lsV Cq) := by
        intro b hb
        unfold applyR
        rw [← hv, ← b56, hfb, h56, hb]; rfl
      refine ⟨fun hcb => fin _ _ _ g0 1 rfl ?_, fun hcb => ?_⟩
      · rw [fb false (by rw [← h6]; exact Bool.eq_false_iff.2 hcb)]; rfl
      · have fb := fb true (by rw [← h6]; exact hcb)
        rw [evG q6 G6]
        refine ⟨by rw [← hGq]; exact may_pre q _ _ _, fun q7 g7 ⟨_, hp, _⟩ => ?_⟩
        have h7 : q7.i 187 = mayOf (gOfV Gq) (q6.i 21) (q6.i 149) (q6.i 150) := (Value.int.inj hp).2
        clear hp
        rw [i21, i149, i150] at h7
        have G7 : Agree 181 ({ q with h := fun _ => R } : Env) q7 := G6.trans (g7.mono (by omega))
        have j21 : q7.i 21 = atI H 0 := (G7.i 21 (by omega)).trans hw
        have j149 : q7.i 149 = atI Cq 0 := (G7.i 149 (by omega)).trans c0
        have j150 : q7.i 150 = atI Cq 1 := (G7.i 150 (by omega)).trans c1
        have j151 : q7.i 151 = atI Cq 2 := (G7.i 151 (by omega)).trans c2
        refine ⟨fun hne => fin _ _ _ g0 (q7.i 187) rfl ?_, fun h0 => ?_⟩
        · rw [fb]; unfold applyF
          rw [if_neg (by simp), if_pos (by rw [← h7]; exact hne), h7]
        · rw [evG q7 G7]
          refine ⟨by rw [← hGq]; exact behind_pre q _ _ _ _, fun q8 g8 ⟨_, hp, _⟩ => ?_⟩
          have h8 : (SV.agg (Sx.ckCVs 188 gk2)).ev q8 = gV (behind (gOfV Gq) (q7.i 21) (q7.i 149) (q7.i 150) (q7.i 151)) := hp
          clear hp
          rw [j21, j149, j150, j151] at h8
          generalize hB : behind (gOfV Gq) (atI H 0) (atI Cq 0) (atI Cq 1) (atI Cq 2) = B at h8
          have fb2 : applyR (hForm H R) Gq H Cq = if atI Cq 0 = 5 then (B, 0) else if (List.range 6).all (fun k => B.mem k == decide (0 < (lsV Cq).getD k 0)) then (B, 0) else (g0, 2) := by
            rw [fb]; unfold applyF
            rw [if_neg (by simp), if_neg (by rw [← h7]; omega), hB]
          intro q9 g9 _
          have G9 : Agree 181 ({ q with h := fun _ => R } : Env) q9 := (G7.trans (g8.mono (by omega))).trans (g9.mono (by omega))
          have hB9 : (TV.tup [.agg (Sx.ckCVs 188 gk2), .one (.int .i64 (.lit 0))]).ev q9 = applyV (B, 0) := by
            show Value.tuple #[(SV.agg (Sx.ckCVs 188 gk2)).ev q9, .int .i64 0] = _
            rw [ev_ag g9 (by decide), h8]; rfl
          have m0 : B.mem 0 = q9.b 190 := by rw [g9.b 190 (by omega)]; exact (congrArg (fun v => atB v 2) h8).symm
          have m1 : B.mem 1 = q9.b 191 := by rw [g9.b 191 (by omega)]; exact (congrArg (fun v => atB v 3) h8).symm
          have m2 : B.mem 2 = q9.b 192 := by rw [g9.b 192 (by omega)]; exact (congrArg (fun v => atB v 4) h8).symm
          have m3 : B.mem 3 = q9.b 193 := by rw [g9.b 193 (by omega)]; exact (congrArg (fun v => atB v 5) h8).symm
          have m4 : B.mem 4 = q9.b 194 := by rw [g9.b 194 (by omega)]; exact (congrArg (fun v => atB v 6) h8).symm
          have m5 : B.mem 5 = q9.b 195 := by rw [g9.b 195 (by omega)]; exact (congrArg (fun v => atB v 7) h8).symm
          have z0 : 0 ≤ q.i 154 := hn.2.2.2.1.2.2.1
          have l0 : (lsV Cq).getD 0 0 = q9.i 154 := by rw [G9.i 154 (by omega), ← hCq]; exact Int.toNat_of_nonneg z0
          have n0 : 0 ≤ q9.i 154 := by rw [G9.i 154 (by omega)]; exact z0
          have z1 : 0 ≤ q.i 158 := hn.2.2.2.2.1.2.2.1
          have l1 : (lsV Cq).getD 1 0 = q9.i 158 := by rw [G9.i 158 (by omega), ← hCq]; exact Int.toNat_of_nonneg z1
          have n1 : 0 ≤ q9.i 158 := by rw [G9.i 158 (by omega)]; exact z1
          have z2 : 0 ≤ q.i 162 := hn.2.2.2.2.2.1.2.2.1
          have l2 : (lsV Cq).getD 2 0 = q9.i 162 := by rw [G9.i 162 (by omega), ← hCq]; exact Int.toNat_of_nonneg z2
          have n2 : 0 ≤ q9.i 162 := by rw [G9.i 162 (by omega)]; exact z2
          have z3 : 0 ≤ q.i 166 := hn.2.2.2.2.2.2.1.2.2.1
          have l3 : (lsV Cq).getD 3 0 = q9.i 166 := by rw [G9.i 166 (by omega), ← hCq]; exact Int.toNat_of_nonneg z3
          have n3 : 0 ≤ q9.i 166 := by rw [G9.i 166 (by omega)]; exact z3
          have z4 : 0 ≤ q.i 170 := hn.2.2.2.2.2.2.2.1.2.2.1
          have l4 : (lsV Cq).getD 4 0 = q9.i 170 := by rw [G9.i 170 (by omega), ← hCq]; exact Int.toNat_of_nonneg z4
          have n4 : 0 ≤ q9.i 170 := by rw [G9.i 170 (by omega)]; exact z4
          have z5 : 0 ≤ q.i 174 := hn.2.2.2.2.2.2.2.2.1.2.2.1
          have l5 : (lsV Cq).getD 5 0 = q9.i 174 := by rw [G9.i 174 (by omega), ← hCq]; exact Int.toNat_of_nonneg z5
          have n5 : 0 ≤ q9.i 174 := by rw [G9.i 174 (by omega)]; exact z5
          have hcf : cFormedV Cq = true := by rw [← h6]; exact hcb
          have hls := slots_of hcf
          have hinv : ∀ r, rapInv q 0 r = ∃ k : Nat, r.i 220 = k ∧ k ≤ 6 ∧ bInv B (lsV Cq) (q.i 149) k := by
            intro r; unfold rapInv; rw [hGq, hCq, hH', hB]
          have q149 : q.i 149 = atI Cq 0 := c0
          refine ⟨by rw [hinv]; exact ⟨0, rfl, by omega, fun _ => rfl⟩, fun q10 g10 hI => ?_⟩
          rw [hinv] at hI
          obtain ⟨k, e220, hk, hb⟩ := hI
          have G10 : Agree 181 ({ q with h := fun _ => R } : Env) q10 := G9.trans (g10.mono (by omega))
          have o149 : q10.i 149 = atI Cq 0 := (G10.i 149 (by omega)).trans c0
          have stay : (q10.i 220 < 6) → bInv B (lsV Cq) (q.i 149) (k + 1) → rapInv q 0 (assign q10 [⟨220, 0, .int .i64 (.wrap .i64 (.add (.var 220) (.lit 1)))⟩] []) ∧ (6 - IntKind.i64.wrap (q10.i 220 + 1)).toNat < (6 - q10.i 220).toNat := fun hlt hb' => by
            have w : IntKind.i64.wrap (q10.i 220 + 1) = k + 1 := by rw [e220]; exact wrap_i64 (by omega) (by omega)
            refine ⟨?_, by omega⟩
            rw [hinv]
            exact ⟨k + 1, by show IntKind.i64.wrap (q10.i 220 + 1) = _; rw [w]; rfl, by omega, hb'⟩
          rw [o149]
          refine ⟨fun hlt => ?_, fun hge => ?_⟩
          · have h6k : k < 6 := by omega
            have selB : (if q10.i 220 = 0 then q10.b 190 = true else if q10.i 220 = 1 then q10.b 191 = true else if q10.i 220 = 2 then q10.b 192 = true else if q10.i 220 = 3 then q10.b 193 = true else if q10.i 220 = 4 then q10.b 194 = true else q10.b 195 = true) = (B.mem k = true) := by
              rw [e220]
              match k, h6k with
              | 0, _ => show (q10.b 190 = true) = _; rw [g10.b 190 (by omega), m0]
              | 1, _ => show (q10.b 191 = true) = _; rw [g10.b 191 (by omega), m1]
              | 2, _ => show (q10.b 192 = true) = _; rw [g10.b 192 (by omega), m2]
              | 3, _ => show (q10.b 193 = true) = _; rw [g10.b 193 (by omega), m3]
              | 4, _ => show (q10.b 194 = true) = _; rw [g10.b 194 (by omega), m4]
              | 5, _ => show (q10.b 195 = true) = _; rw [g10.b 195 (by omega), m5]
              | n + 6, h => omega
            have selL : (if q10.i 220 = 0 then q10.i 154 else if q10.i 220 = 1 then q10.i 158 else if q10.i 220 = 2 then q10.i 162 else if q10.i 220 = 3 then q10.i 166 else if q10.i 220 = 4 then q10.i 170 else q10.i 174) = (lsV Cq).getD k 0 := by
              rw [e220]
              match k, h6k with
              | 0, _ => show q10.i 154 = _; rw [g10.i 154 (by omega), l0]
              | 1, _ => show q10.i 158 = _; rw [g10.i 158 (by omega), l1]
              | 2, _ => show q10.i 162 = _; rw [g10.i 162 (by omega), l2]
              | 3, _ => show q10.i 166 = _; rw [g10.i 166 (by omega), l3]
              | 4, _ => show q10.i 170 = _; rw [g10.i 170 (by omega), l4]
              | 5, _ => show q10.i 174 = _; rw [g10.i 174 (by omega), l5]
              | n + 6, h => omega
            have hL := hls k h6k
            have beq : ((B.mem k = true) = ((lsV Cq).getD k 0 = 48)) = ((B.mem k == decide (0 < (lsV Cq).getD k 0)) = true) := by
              rcases hL with h | h <;> rw [h] <;> cases B.mem k <;> simp
            rw [selB, selL, beq]
            refine ⟨fun hne5 => ⟨by omega, by omega, fun hno => fin _ _ _ g0 2 rfl ?_, fun hyes => ?_⟩, fun h5 => stay hlt (fun h => absurd (q149.trans h5) h)⟩
            · rw [fb2, if_neg hne5, if_neg]
              intro hall
              exact hno (List.all_eq_true.1 hall k (List.mem_range.2 h6k))
            · refine stay hlt fun h => ?_
              rw [List.range_succ, List.all_append, hb h]
              simpa using hyes
          · have hk6 : k = 6 := by omega
            subst hk6
            refine fin _ _ _ B 0 ?_ ?_
            · show Value.tuple #[(SV.agg (Sx.ckCVs 188 gk2)).ev q10, .int .i64 0] = _
              rw [Sx.ev_ag g10 (by decide)]; exact hB9
            · rw [fb2]
              by_cases h5 : atI Cq 0 = 5
              · rw [if_pos h5]
              · rw [if_neg h5, if_pos (hb (by rw [q149]; exact h5))]
    · unfold applyR applyF
      rw [← b56, Bool.eq_false_iff.2 h56]
      simp
    · unfold applyR applyF
      rw [← hv, Bool.eq_false_iff.2 hfb]
      simp
end Go.Proofs.Ytngboefkhfldgaa.V2
