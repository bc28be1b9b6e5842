/- Vectors: greater, more, Join, Great, Missing, awake; comparing headers; Ready: contracts. -/
import Derived.Test.YtnlejejjeilpoaaVfA
set_option linter.unusedSimpArgs false
set_option linter.unusedVariables false
set_option linter.constructorNameAsVariable false
namespace Go.Proofs.Ytnlejejjeilpoaa.V2
open Go Go.Sx

def v6s : List Ck := List.replicate 6 (Ck.int .u64)
def noLoops : Loops := fun _ => none
theorem outOf {s : Sx.Spec} {xs : List Value} {Rs : List Hl} {q : Env} {mem : Mem} {r : TV} (hw : s.own = []) {v : Value} (he : r.ev q = v) (hr : ∃ ρ2, v = (cpTV 0 s.res).ev ρ2 ∧ cpNorms 0 s.res ρ2) (hp : s.post xs [] Rs v [] Hl.none) : postOf s xs [] Rs q mem r := fun _ =>
  ⟨[], [], rfl, rfl, by rw [he]; exact hr, by rw [he]; exact hp⟩
theorem shI {s : Sx.Spec} {k : IntKind} (h : s.res = [.one (.int k)]) (n : Int) : ∃ ρ2, Value.int k n = (cpTV 0 s.res).ev ρ2 ∧ cpNorms 0 s.res ρ2 := by
  rw [h]; exact ⟨⟨fun _ => n, fun _ => false, fun _ => .empty, fun _ => .tuple #[], fun _ => Hl.none⟩, rfl, trivial, trivial⟩
theorem shB {s : Sx.Spec} (h : s.res = [.one .bool]) (b : Bool) : ∃ ρ2, Value.bool b = (cpTV 0 s.res).ev ρ2 ∧ cpNorms 0 s.res ρ2 := by
  rw [h]; exact ⟨⟨fun _ => 0, fun _ => b, fun _ => .empty, fun _ => .tuple #[], fun _ => Hl.none⟩, rfl, trivial, trivial⟩
/-- A vector. -/
def vecV (v : List Int) : Value := .agg (v.map (Value.int .u64)).toArray
theorem vecV_inj {a b : List Int} (h : vecV a = vecV b) : a = b := by
  unfold vecV at h
  have h : a.map (Value.int .u64) = b.map (Value.int .u64) := by simpa using h
  have inj : ∀ {a b : List Int}, a.map (Value.int .u64) = b.map (Value.int .u64) → a = b := by
    intro a
    induction a with
    | nil => intro b h; cases b with
      | nil => rfl
      | cons _ _ => cases h
    | cons u a ih => intro b h; cases b with
      | nil => cases h
      | cons v b =>
        simp only [List.map_cons, List.cons.injEq, Value.int.injEq, true_and] at h
        rw [h.1, ih h.2]
  exact inj h
def vecQ (q : Env) (n : Nat) : List Int := [q.i n, q.i (n + 1), q.i (n + 2), q.i (n + 3), q.i (n + 4), q.i (n + 5)]
theorem vecQ_ev (q : Env) (n : Nat) : Value.agg (List.map (CV.ev q) (Sx.ckCVs n (List.replicate 6 (Ck.int .u64)))).toArray = vecV (vecQ q n) := rfl
theorem shV {s : Sx.Spec} (h : s.res = [.agg v6s]) {v : List Int} (hv : v.length = 6) : ∃ ρ2, vecV v = (cpTV 0 s.res).ev ρ2 ∧ cpNorms 0 s.res ρ2 := by
  rw [h]
  match v, hv with
  | [a, b, c, d, e, f], _ => exact ⟨envI [a, b, c, d, e, f] false [], rfl, ⟨trivial, trivial, trivial, trivial, trivial, trivial, trivial⟩, trivial⟩
def twoS (f : FuncId) (k k' : IntKind) (g : Int → Int → Int) : Sx.Spec where
  fn := f
  own := []
  rd := []
  res := [.one (.int k')]
  pre := fun xs Hs Rs => ∃ x y, xs = [.int k x, .int k y]
  post := fun xs Hs Rs v Hs' F => ∃ x y, xs = [.int k x, .int k y] ∧ v = .int k' (g x y)
theorem two_post {f : FuncId} {k k' : IntKind} {g : Int → Int → Int} {x y : Int} {v : Value} {Hs Rs K : List Hl} {F : Hl} (h : (twoS f k k' g).post [.int k x, .int k y] Hs Rs v K F) : v = .int k' (g x y) := by
  obtain ⟨x', y', e, hv⟩ := h
  have e : x = x' ∧ y = y' := by simpa using e
  rw [hv, ← e.1, ← e.2]
def moreI (x y : Int) : Int := if x < y then (if 1099511627776 < IntKind.u64.wrap (y - x) then 1099511627776 else IntKind.u64.wrap (y - x)) else 0
def greaterI (x y : Int) : Int := if x < y then y else x
def cmpI (x y : Int) : Int := if x < y then -1 else if y < x then 1 else 0
def greaterS : Sx.Spec := twoS 21 .u64 .u64 greaterI
def moreS : Sx.Spec := twoS 23 .u64 .u64 moreI
def cmpuS : Sx.Spec := twoS 36 .u64 .i64 cmpI
def cmpiS : Sx.Spec := twoS 37 .i64 .i64 cmpI
def greaterNd : Nd := .post [] (.sv (.one (.int .u64 (.ite (.lt (.var 0) (.var 1)) (.var 1) (.var 0)))))
def moreNd : Nd := .and (.imp (.lt (.var 0) (.var 1)) (.post [] (.sv (.one (.int .u64 (.ite (.lt (.lit 1099511627776) (.wrap .u64 (.sub (.var 1) (.var 0)))) (.lit 1099511627776) (.wrap .u64 (.sub (.var 1) (.var 0))))))))) (.imp (.not (.lt (.var 0) (.var 1))) (.post [] (.sv (.one (.int .u64 (.lit 0))))))
def cmpuNd : Nd := .and (.imp (.lt (.var 0) (.var 1)) (.post [] (.sv (.one (.int .i64 (.lit (-1))))))) (.imp (.not (.lt (.var 0) (.var 1))) (.and (.imp (.lt (.var 1) (.var 0)) (.post [] (.sv (.one (.int .i64 (.lit 1)))))) (.imp (.not (.lt (.var 1) (.var 0))) (.post [] (.sv (.one (.int .i64 (.lit 0))))))))
def cmpiNd : Nd := .and (.imp (.lt (.var 0) (.var 1)) (.post [] (.sv (.one (.int .i64 (.lit (-1))))))) (.imp (.not (.lt (.var 0) (.var 1))) (.and (.imp (.lt (.var 1) (.var 0)) (.post [] (.sv (.one (.int .i64 (.lit 1)))))) (.imp (.not (.lt (.var 1) (.var 0))) (.post [] (.sv (.one (.int .i64 (.lit 0))))))))
def greaterW : Walk Try.prog [] greaterS.fn where
  Λ := noLoops
  args := [TI .u64 (.var 0), TI .u64 (.var 1)]
  mem := []
  nv := 2
  nd := greaterNd
  ok := by kernel_rfl
def moreW : Walk Try.prog [] moreS.fn where
  Λ := noLoops
  args := [TI .u64 (.var 0), TI .u64 (.var 1)]
  mem := []
  nv := 2
  nd := moreNd
  ok := by kernel_rfl
def cmpuW : Walk Try.prog [] cmpuS.fn where
  Λ := noLoops
  args := [TI .u64 (.var 0), TI .u64 (.var 1)]
  mem := []
  nv := 2
  nd := cmpuNd
  ok := by kernel_rfl
def cmpiW : Walk Try.prog [] cmpiS.fn where
  Λ := noLoops
  args := [TI .i64 (.var 0), TI .i64 (.var 1)]
  mem := []
  nv := 2
  nd := cmpiNd
  ok := by kernel_rfl
theorem entry0 {ρ : Env} : Entry ρ [] [] [] := ⟨(fun r hr => nomatch hr), (fun r hr => nomatch hr), (by simp), (fun r hr => nomatch hr)⟩
theorem greaterS_ok : greaterS.OK Try.prog := by
  refine Spec.of_fn (Γ := []) (fun _ h => by cases h) ?_
  rintro xs Hs Rs hl1 hl2 ⟨x, y, rfl⟩
  have e0 : Hs = [] := List.length_eq_zero_iff.1 hl1
  have e1 : Rs = [] := List.length_eq_zero_iff.1 hl2
  subst e0; subst e1
  refine ⟨greaterW, envI [x, y] false [], fun _ _ => True, fun _ _ => 0, rfl, entry0, (fun _ h => nomatch h), ?_⟩
  show Nd.holds _ _ _ greaterNd
  unfold greaterNd
  simp only [Nd.holds, X.pre, X.rel, X.n, Src.ok, Src.len, Src.vals, true_and, and_true, if_true, Nat.mul_one, Nat.add_zero, Nat.reduceAdd, List.length_cons, List.length_nil, bT_tt, bT_ff, bT_bvar, bT_not, bT_and, bT_or, bT_ite, bT_lt, bT_le, bT_eq, bT_beq, bT_seq, bT_hB, bT_his, bT_hby, bT_hism, bT_hks, iev_lit, iev_var, iev_add, iev_sub, iev_mul, iev_wrap, iev_ite, iev_hI, iev_hP, iev_hmlen, sev_ite, sev_slit, sev_sof, sev_svar, TV.ev, SV.ev, CV.ev, List.map_cons, List.map_nil, Res.hl]
  refine outOf rfl (v := .int .u64 (greaterI x y)) (by simp only [TV.ev, SV.ev, CV.ev, iev_ite, bT_lt, iev_var]; rfl) (shI rfl _) ⟨x, y, rfl, rfl⟩
theorem moreS_ok : moreS.OK Try.prog := by
  refine Spec.of_fn (Γ := []) (fun _ h => by cases h) ?_
  rintro xs Hs Rs hl1 hl2 ⟨x, y, rfl⟩
  have e0 : Hs = [] := List.length_eq_zero_iff.1 hl1
  have e1 : Rs = [] := List.length_eq_zero_iff.1 hl2
  subst e0; subst e1
  refine ⟨moreW, envI [x, y] false [], fun _ _ => True, fun _ _ => 0, rfl, entry0, (fun _ h => nomatch h), ?_⟩
  show Nd.holds _ _ _ moreNd
  unfold moreNd
  simp only [Nd.holds, X.pre, X.rel, X.n, Src.ok, Src.len, Src.vals, true_and, and_true, if_true, Nat.mul_one, Nat.add_zero, Nat.reduceAdd, List.length_cons, List.length_nil, bT_tt, bT_ff, bT_bvar, bT_not, bT_and, bT_or, bT_ite, bT_lt, bT_le, bT_eq, bT_beq, bT_seq, bT_hB, bT_his, bT_hby, bT_hism, bT_hks, iev_lit, iev_var, iev_add, iev_sub, iev_mul, iev_wrap, iev_ite, iev_hI, iev_hP, iev_hmlen, sev_ite, sev_slit, sev_sof, sev_svar, TV.ev, SV.ev, CV.ev, List.map_cons, List.map_nil, Res.hl]
  refine ⟨fun h => ?_, fun h => ?_⟩
  · have h : x < y := h
    refine outOf rfl (v := .int .u64 (moreI x y)) ?_ (shI rfl _) ⟨x, y, rfl, rfl⟩
    unfold moreI
    rw [if_pos h]
    simp only [TV.ev, SV.ev, CV.ev, iev_ite, bT_lt, iev_var, iev_lit, iev_wrap, iev_sub]; rfl
  · have h : ¬ x < y := h
    refine outOf rfl (v := .int .u64 (moreI x y)) ?_ (shI rfl _) ⟨x, y, rfl, rfl⟩
    unfold moreI
    rw [if_neg h]; rfl
theorem cmp_nd {x y : Int} : (x < y → cmpI x y = -1) ∧ (¬ x < y → (y < x → cmpI x y = 1) ∧ (¬ y < x → cmpI x y = 0)) := by
  unfold cmpI
  refine ⟨fun h => if_pos h, fun h => ⟨fun h2 => by rw [if_neg h, if_pos h2], fun h2 => by rw [if_neg h, if_neg h2]⟩⟩
theorem cmpuS_ok : cmpuS.OK Try.prog := by
  refine Spec.of_fn (Γ := []) (fun _ h => by cases h) ?_
  rintro xs Hs Rs hl1 hl2 ⟨x, y, rfl⟩
  have e0 : Hs = [] := List.length_eq_zero_iff.1 hl1
  have e1 : Rs = [] := List.length_eq_zero_iff.1 hl2
  subst e0; subst e1
  refine ⟨cmpuW, envI [x, y] false [], fun _ _ => True, fun _ _ => 0, rfl, entry0, (fun _ h => nomatch h), ?_⟩
  show Nd.holds _ _ _ cmpuNd
  unfold cmpuNd
  simp only [Nd.holds, X.pre, X.rel, X.n, Src.ok, Src.len, Src.vals, true_and, and_true, if_true, Nat.mul_one, Nat.add_zero, Nat.reduceAdd, List.length_cons, List.length_nil, bT_tt, bT_ff, bT_bvar, bT_not, bT_and, bT_or, bT_ite, bT_lt, bT_le, bT_eq, bT_beq, bT_seq, bT_hB, bT_his, bT_hby, bT_hism, bT_hks, iev_lit, iev_var, iev_add, iev_sub, iev_mul, iev_wrap, iev_ite, iev_hI, iev_hP, iev_hmlen, sev_ite, sev_slit, sev_sof, sev_svar, TV.ev, SV.ev, CV.ev, List.map_cons, List.map_nil, Res.hl]
  obtain ⟨c1, c2⟩ := @cmp_nd x y
  refine ⟨fun h => ?_, fun h => ⟨fun h2 => ?_, fun h2 => ?_⟩⟩
  · exact outOf rfl (v := .int .i64 (cmpI x y)) (by rw [c1 h]; rfl) (shI rfl _) ⟨x, y, rfl, rfl⟩
  · exact outOf rfl (v := .int .i64 (cmpI x y)) (by rw [(c2 h).1 h2]; rfl) (shI rfl _) ⟨x, y, rfl, rfl⟩
  · exact outOf rfl (v := .int .i64 (cmpI x y)) (by rw [(c2 h).2 h2]; rfl) (shI rfl _) ⟨x, y, rfl, rfl⟩
theorem cmpiS_ok : cmpiS.OK Try.prog := by
  refine Spec.of_fn (Γ := []) (fun _ h => by cases h) ?_
  rintro xs Hs Rs hl1 hl2 ⟨x, y, rfl⟩
  have e0 : Hs = [] := List.length_eq_zero_iff.1 hl1
  have e1 : Rs = [] := List.length_eq_zero_iff.1 hl2
  subst e0; subst e1
  refine ⟨cmpiW, envI [x, y] false [], fun _ _ => True, fun _ _ => 0, rfl, entry0, (fun _ h => nomatch h), ?_⟩
  show Nd.holds _ _ _ cmpiNd
  unfold cmpiNd
  simp only [Nd.holds, X.pre, X.rel, X.n, Src.ok, Src.len, Src.vals, true_and, and_true, if_true, Nat.mul_one, Nat.add_zero, Nat.reduceAdd, List.length_cons, List.length_nil, bT_tt, bT_ff, bT_bvar, bT_not, bT_and, bT_or, bT_ite, bT_lt, bT_le, bT_eq, bT_beq, bT_seq, bT_hB, bT_his, bT_hby, bT_hism, bT_hks, iev_lit, iev_var, iev_add, iev_sub, iev_mul, iev_wrap, iev_ite, iev_hI, iev_hP, iev_hmlen, sev_ite, sev_slit, sev_sof, sev_svar, TV.ev, SV.ev, CV.ev, List.map_cons, List.map_nil, Res.hl]
  obtain ⟨c1, c2⟩ := @cmp_nd x y
  refine ⟨fun h => ?_, fun h => ⟨fun h2 => ?_, fun h2 => ?_⟩⟩
  · exact outOf rfl (v := .int .i64 (cmpI x y)) (by rw [c1 h]; rfl) (shI rfl _) ⟨x, y, rfl, rfl⟩
  · exact outOf rfl (v := .int .i64 (cmpI x y)) (by rw [(c2 h).1 h2]; rfl) (shI rfl _) ⟨x, y, rfl, rfl⟩
  · exact outOf rfl (v := .int .i64 (cmpI x y)) (by rw [(c2 h).2 h2]; rfl) (shI rfl _) ⟨x, y, rfl, rfl⟩

/-! ### Vectors -/
def vecS (f : FuncId) (res : List Cp) (g : List Int → List Int → Value) : Sx.Spec where
  fn := f
  own := []
  rd := []
  res := res
  pre := fun xs Hs Rs => ∃ a b, xs = [vecV a, vecV b] ∧ a.length = 6 ∧ b.length = 6
  post := fun xs Hs Rs v Hs' F => ∃ a b, xs = [vecV a, vecV b] ∧ v = g a b
theorem vec_post {f : FuncId} {res : List Cp} {g : List Int → List Int → Value} {a b : List Int} {v : Value} {Hs Rs K : List Hl} {F : Hl} (h : (vecS f res g).post [vecV a, vecV b] Hs Rs v K F) : v = g a b := by
  obtain ⟨a', b', e, hv⟩ := h
  have e : vecV a = vecV a' ∧ vecV b = vecV b' := by simpa using e
  rw [hv, ← vecV_inj e.1, ← vecV_inj e.2]
def joinL (a b : List Int) : List Int := List.zipWith greaterI a b
def greatL2 (a b : List Int) : Bool := decide (joinL a b = a)
def missL (a b : List Int) : Int := (List.zipWith moreI a b).foldl (fun n x => IntKind.u64.wrap (n + x)) 0
def joinS : Sx.Spec := vecS 8 [.agg v6s] fun a b => vecV (joinL a b)
def greatS2 : Sx.Spec := vecS 10 [.one .bool] fun a b => .bool (greatL2 a b)
def missS : Sx.Spec := vecS 12 [.one (.int .u64)] fun a b => .int .u64 (missL a b)
def vΓ : List Sx.Spec := [greaterS, moreS, joinS]
theorem vg0 : vΓ[0]? = some greaterS := rfl
theorem vg1 : vΓ[1]? = some moreS := rfl
theorem vg2 : vΓ[2]? = some joinS := rfl
theorem vr0 : greaterS.res = [.one (.int .u64)] := rfl
theorem vr1 : moreS.res = [.one (.int .u64)] := rfl
theorem vr2 : joinS.res = [.agg v6s] := rfl
def joinNd : Nd := .ext (.alloc 12) (.ext (.alloc 13) (.ext (.alloc 14) (.ext (.alloc 15) (.ext (.alloc 16) (.ext (.alloc 17) (.and (.pre (.call 0 18 [.sv (.one (.int .u64 (.var 0))), .sv (.one (.int .u64 (.var 6)))] [] [])) (.ext (.call 0 18 [.sv (.one (.int .u64 (.var 0))), .sv (.one (.int .u64 (.var 6)))] [] []) (.and (.pre (.call 0 19 [.sv (.one (.int .u64 (.var 1))), .sv (.one (.int .u64 (.var 7)))] [] [])) (.ext (.call 0 19 [.sv (.one (.int .u64 (.var 1))), .sv (.one (.int .u64 (.var 7)))] [] []) (.and (.pre (.call 0 20 [.sv (.one (.int .u64 (.var 2))), .sv (.one (.int .u64 (.var 8)))] [] [])) (.ext (.call 0 20 [.sv (.one (.int .u64 (.var 2))), .sv (.one (.int .u64 (.var 8)))] [] []) (.and (.pre (.call 0 21 [.sv (.one (.int .u64 (.var 3))), .sv (.one (.int .u64 (.var 9)))] [] [])) (.ext (.call 0 21 [.sv (.one (.int .u64 (.var 3))), .sv (.one (.int .u64 (.var 9)))] [] []) (.and (.pre (.call 0 22 [.sv (.one (.int .u64 (.var 4))), .sv (.one (.int .u64 (.var 10)))] [] [])) (.ext (.call 0 22 [.sv (.one (.int .u64 (.var 4))), .sv (.one (.int .u64 (.var 10)))] [] []) (.and (.pre (.call 0 23 [.sv (.one (.int .u64 (.var 5))), .sv (.one (.int .u64 (.var 11)))] [] [])) (.ext (.call 0 23 [.sv (.one (.int .u64 (.var 5))), .sv (.one (.int .u64 (.var 11)))] [] []) (.post [.dead, .dead, .dead, .dead, .dead, .dead] (.sv (.agg (Sx.ckCVs 18 v6s)))))))))))))))))))))
def missNd : Nd := .ext (.alloc 12) (.ext (.alloc 13) (.ext (.alloc 14) (.ext (.alloc 15) (.ext (.alloc 16) (.and (.pre (.call 1 17 [.sv (.one (.int .u64 (.var 0))), .sv (.one (.int .u64 (.var 6)))] [] [])) (.ext (.call 1 17 [.sv (.one (.int .u64 (.var 0))), .sv (.one (.int .u64 (.var 6)))] [] []) (.and (.pre (.call 1 18 [.sv (.one (.int .u64 (.var 1))), .sv (.one (.int .u64 (.var 7)))] [] [])) (.ext (.call 1 18 [.sv (.one (.int .u64 (.var 1))), .sv (.one (.int .u64 (.var 7)))] [] []) (.and (.pre (.call 1 19 [.sv (.one (.int .u64 (.var 2))), .sv (.one (.int .u64 (.var 8)))] [] [])) (.ext (.call 1 19 [.sv (.one (.int .u64 (.var 2))), .sv (.one (.int .u64 (.var 8)))] [] []) (.and (.pre (.call 1 20 [.sv (.one (.int .u64 (.var 3))), .sv (.one (.int .u64 (.var 9)))] [] [])) (.ext (.call 1 20 [.sv (.one (.int .u64 (.var 3))), .sv (.one (.int .u64 (.var 9)))] [] []) (.and (.pre (.call 1 21 [.sv (.one (.int .u64 (.var 4))), .sv (.one (.int .u64 (.var 10)))] [] [])) (.ext (.call 1 21 [.sv (.one (.int .u64 (.var 4))), .sv (.one (.int .u64 (.var 10)))] [] []) (.and (.pre (.call 1 22 [.sv (.one (.int .u64 (.var 5))), .sv (.one (.int .u64 (.var 11)))] [] [])) (.ext (.call 1 22 [.sv (.one (.int .u64 (.var 5))), .sv (.one (.int .u64 (.var 11)))] [] []) (.post [.dead, .dead, .dead, .dead, .dead] (.sv (.one (.int .u64 (.wrap .u64 (.add (.wrap .u64 (.add (.wrap .u64 (.add (.wrap .u64 (.add (.wrap .u64 (.add (.wrap .u64 (.var 17)) (.var 18))) (.var 19))) (.var 20))) (.var 21))) (.var 22)))))))))))))))))))))))
def greatNd : Nd := .ext (.alloc 12) (.ext (.alloc 13) (.and (.pre (.call 2 14 [.sv (.agg (Sx.ckCVs 0 v6s)), .sv (.agg (Sx.ckCVs 6 v6s))] [] [])) (.ext (.call 2 14 [.sv (.agg (Sx.ckCVs 0 v6s)), .sv (.agg (Sx.ckCVs 6 v6s))] [] []) (.post [.dead, .dead] (.sv (.one (.bool (.and (.eq (.var 14) (.var 0)) (.and (.eq (.var 15) (.var 1)) (.and (.eq (.var 16) (.var 2)) (.and (.eq (.var 17) (.var 3)) (.and (.eq (.var 18) (.var 4)) (.eq (.var 19) (.var 5))))))))))))))
def vΓ2 : List Sx.Spec := [greaterS, moreS]
theorem vΓ2_ok : ∀ t ∈ vΓ2, t.OK Try.prog := fun t ht => by
  simp only [vΓ2, List.mem_cons, List.mem_nil_iff, or_false] at ht
  rcases ht with rfl | rfl
  · exact greaterS_ok
  · exact moreS_ok
theorem v2g0 : vΓ2[0]? = some greaterS := rfl
theorem v2g1 : vΓ2[1]? = some moreS := rfl
def joinW : Walk Try.prog vΓ2 joinS.fn where
  Λ := noLoops
  args := [.sv (.agg (Sx.ckCVs 0 v6s)), .sv (.agg (Sx.ckCVs 6 v6s))]
  mem := []
  nv := 12
  nd := joinNd
  ok := by kernel_rfl
theorem joinS_ok : joinS.OK Try.prog := by
  refine Spec.of_fn (Γ := vΓ2) vΓ2_ok ?_
  rintro xs Hs Rs hl1 hl2 ⟨a, b, rfl, ha, hb⟩
  have e0 : Hs = [] := List.length_eq_zero_iff.1 hl1
  have e1 : Rs = [] := List.length_eq_zero_iff.1 hl2
  subst e0; subst e1
  match a, ha, b, hb with
  | [a0, a1, a2, a3, a4, a5], _, [b0, b1, b2, b3, b4, b5], _ =>
    refine ⟨joinW, envI [a0, a1, a2, a3, a4, a5, b0, b1, b2, b3, b4, b5] false [], fun _ _ => True, fun _ _ => 0, rfl, entry0, (fun _ h => nomatch h), ?_⟩
    show Nd.holds _ _ _ joinNd
    unfold joinNd
    generalize hρ : envI [a0, a1, a2, a3, a4, a5, b0, b1, b2, b3, b4, b5] false [] = ρ
    have v : ∀ k, k < 12 → ρ.i k = [a0, a1, a2, a3, a4, a5, b0, b1, b2, b3, b4, b5].getD k 0 := by
      intro k hk; rw [← hρ]; rfl
    simp only [Nd.holds, X.pre, X.rel, X.n, Src.ok, Src.len, Src.vals, true_and, and_true, if_true, Nat.mul_one, Nat.add_zero, Nat.reduceAdd, List.length_cons, List.length_nil, bT_tt, bT_ff, bT_bvar, bT_not, bT_and, bT_or, bT_ite, bT_lt, bT_le, bT_eq, bT_beq, bT_seq, bT_hB, bT_his, bT_hby, bT_hism, bT_hks, iev_lit, iev_var, iev_add, iev_sub, iev_mul, iev_wrap, iev_ite, iev_hI, iev_hP, iev_hmlen, sev_ite, sev_slit, sev_sof, sev_svar, TV.ev, SV.ev, CV.ev, List.map_cons, List.map_nil, Res.hl, cpTV, Cp.sv, Ck.cv, cpSVs, Cp.len, Ck.len, newHs_zero, newHs_one, roots_ne, v2g0, vr0]
    intro q1 g1 _ q2 g2 _ q3 g3 _ q4 g4 _ q5 g5 _ q6 g6 _
    have P1 : Agree 12 ρ q1 := g1
    have P2 : Agree 12 ρ q2 := P1.trans (g2.mono (by omega))
    have P3 : Agree 12 ρ q3 := P2.trans (g3.mono (by omega))
    have P4 : Agree 12 ρ q4 := P3.trans (g4.mono (by omega))
    have P5 : Agree 12 ρ q5 := P4.trans (g5.mono (by omega))
    have P6 : Agree 12 ρ q6 := P5.trans (g6.mono (by omega))
    refine ⟨⟨_, _, rfl⟩, fun q7 g7 ⟨F7, hp7, _, _⟩ => ?_⟩
    have h7 := two_post hp7
    have h7 : q7.i 18 = greaterI (q6.i 0) (q6.i 6) := by simpa using h7
    rw [P6.i 0 (by omega), P6.i 6 (by omega), v 0 (by omega), v 6 (by omega)] at h7
    have P7 : Agree 12 ρ q7 := P6.trans (g7.mono (by omega))
    refine ⟨⟨_, _, rfl⟩, fun q8 g8 ⟨F8, hp8, _, _⟩ => ?_⟩
    have h8 := two_post hp8
    have h8 : q8.i 19 = greaterI (q7.i 1) (q7.i 7) := by simpa using h8
    rw [P7.i 1 (by omega), P7.i 7 (by omega), v 1 (by omega), v 7 (by omega)] at h8
    have P8 : Agree 12 ρ q8 := P7.trans (g8.mono (by omega))
    refine ⟨⟨_, _, rfl⟩, fun q9 g9 ⟨F9, hp9, _, _⟩ => ?_⟩
    have h9 := two_post hp9
    have h9 : q9.i 20 = greaterI (q8.i 2) (q8.i 8) := by simpa using h9
    rw [P8.i 2 (by omega), P8.i 8 (by omega), v 2 (by omega), v 8 (by omega)] at h9
    have P9 : Agree 12 ρ q9 := P8.trans (g9.mono (by omega))
    refine ⟨⟨_, _, rfl⟩, fun q10 g10 ⟨F10, hp10, _, _⟩ => ?_⟩
    have h10 := two_post hp10
    have h10 : q10.i 21 = greaterI (q9.i 3) (q9.i 9) := by simpa using h10
    rw [P9.i 3 (by omega), P9.i 9 (by omega), v 3 (by omega), v 9 (by omega)] at h10
    have P10 : Agree 12 ρ q10 := P9.trans (g10.mono (by omega))
    refine ⟨⟨_, _, rfl⟩, fun q11 g11 ⟨F11, hp11, _, _⟩ => ?_⟩
    have h11 := two_post hp11
    have h11 : q11.i 22 = greaterI (q10.i 4) (q10.i 10) := by simpa using h11
    rw [P10.i 4 (by omega), P10.i 10 (by omega), v 4 (by omega), v 10 (by omega)] at h11
    have P11 : Agree 12 ρ q11 := P10.trans (g11.mono (by omega))
    refine ⟨⟨_, _, rfl⟩, fun q12 g12 ⟨F12, hp12, _, _⟩ => ?_⟩
    have h12 := two_post hp12
    have h12 : q12.i 23 = greaterI (q11.i 5) (q11.i 11) := by simpa using h12
    rw [P11.i 5 (by omega), P11.i 11 (by omega), v 5 (by omega), v 11 (by omega)] at h12
    have P12 : Agree 12 ρ q12 := P11.trans (g12.mono (by omega))
    have e0 : q12.i 18 = greaterI a0 b0 := by rw [g12.i 18 (by omega), g11.i 18 (by omega), g10.i 18 (by omega), g9.i 18 (by omega), g8.i 18 (by omega)]; exact h7
    have e1 : q12.i 19 = greaterI a1 b1 := by rw [g12.i 19 (by omega), g11.i 19 (by omega), g10.i 19 (by omega), g9.i 19 (by omega)]; exact h8
    have e2 : q12.i 20 = greaterI a2 b2 := by rw [g12.i 20 (by omega), g11.i 20 (by omega), g10.i 20 (by omega)]; exact h9
    have e3 : q12.i 21 = greaterI a3 b3 := by rw [g12.i 21 (by omega), g11.i 21 (by omega)]; exact h10
    have e4 : q12.i 22 = greaterI a4 b4 := by rw [g12.i 22 (by omega)]; exact h11
    have e5 : q12.i 23 = greaterI a5 b5 := by exact h12
    refine outOf rfl (v := vecV (joinL [a0, a1, a2, a3, a4, a5] [b0, b1, b2, b3, b4, b5])) ?_ (shV rfl rfl) ⟨_, _, rfl, rfl⟩
    show vecV (vecQ q12 18) = _
    unfold vecQ
    rw [e0, e1, e2, e3, e4, e5]; rfl
def missW : Walk Try.prog vΓ2 missS.fn where
  Λ := noLoops
  args := [.sv (.agg (Sx.ckCVs 0 v6s)), .sv (.agg (Sx.ckCVs 6 v6s))]
  mem := []
  nv := 12
  nd := missNd
  ok := by kernel_rfl
theorem missS_ok : missS.OK Try.prog := by
  refine Spec.of_fn (Γ := vΓ2) vΓ2_ok ?_
  rintro xs Hs Rs hl1 hl2 ⟨a, b, rfl, ha, hb⟩
  have e0 : Hs = [] := List.length_eq_zero_iff.1 hl1
  have e1 : Rs = [] := List.length_eq_zero_iff.1 hl2
  subst e0; subst e1
  match a, ha, b, hb with
  | [a0, a1, a2, a3, a4, a5], _, [b0, b1, b2, b3, b4, b5], _ =>
    refine ⟨missW, envI [a0, a1, a2, a3, a4, a5, b0, b1, b2, b3, b4, b5] false [], fun _ _ => True, fun _ _ => 0, rfl, entry0, (fun _ h => nomatch h), ?_⟩
    show Nd.holds _ _ _ missNd
    unfold missNd
    generalize hρ : envI [a0, a1, a2, a3, a4, a5, b0, b1, b2, b3, b4, b5] false [] = ρ
    have v : ∀ k, k < 12 → ρ.i k = [a0, a1, a2, a3, a4, a5, b0, b1, b2, b3, b4, b5].getD k 0 := by
      intro k hk; rw [← hρ]; rfl
    simp only [Nd.holds, X.pre, X.rel, X.n, Src.ok, Src.len, Src.vals, true_and, and_true, if_true, Nat.mul_one, Nat.add_zero, Nat.reduceAdd, List.length_cons, List.length_nil, bT_tt, bT_ff, bT_bvar, bT_not, bT_and, bT_or, bT_ite, bT_lt, bT_le, bT_eq, bT_beq, bT_seq, bT_hB, bT_his, bT_hby, bT_hism, bT_hks, iev_lit, iev_var, iev_add, iev_sub, iev_mul, iev_wrap, iev_ite, iev_hI, iev_hP, iev_hmlen, sev_ite, sev_slit, sev_sof, sev_svar, TV.ev, SV.ev, CV.ev, List.map_cons, List.map_nil, Res.hl, cpTV, Cp.sv, Ck.cv, cpSVs, Cp.len, Ck.len, newHs_zero, newHs_one, roots_ne, v2g1, vr1]
    intro q1 g1 _ q2 g2 _ q3 g3 _ q4 g4 _ q5 g5 _
    have P1 : Agree 12 ρ q1 := g1
    have P2 : Agree 12 ρ q2 := P1.trans (g2.mono (by omega))
    have P3 : Agree 12 ρ q3 := P2.trans (g3.mono (by omega))
    have P4 : Agree 12 ρ q4 := P3.trans (g4.mono (by omega))
    have P5 : Agree 12 ρ q5 := P4.trans (g5.mono (by omega))
    refine ⟨⟨_, _, rfl⟩, fun q6 g6 ⟨F6, hp6, _, _⟩ => ?_⟩
    have h6 := two_post hp6
    have h6 : q6.i 17 = moreI (q5.i 0) (q5.i 6) := by simpa using h6
    rw [P5.i 0 (by omega), P5.i 6 (by omega), v 0 (by omega), v 6 (by omega)] at h6
    have P6 : Agree 12 ρ q6 := P5.trans (g6.mono (by omega))
    refine ⟨⟨_, _, rfl⟩, fun q7 g7 ⟨F7, hp7, _, _⟩ => ?_⟩
    have h7 := two_post hp7
    have h7 : q7.i 18 = moreI (q6.i 1) (q6.i 7) := by simpa using h7
    rw [P6.i 1 (by omega), P6.i 7 (by omega), v 1 (by omega), v 7 (by omega)] at h7
    have P7 : Agree 12 ρ q7 := P6.trans (g7.mono (by omega))
    refine ⟨⟨_, _, rfl⟩, fun q8 g8 ⟨F8, hp8, _, _⟩ => ?_⟩
    have h8 := two_post hp8
    have h8 : q8.i 19 = moreI (q7.i 2) (q7.i 8) := by simpa using h8
    rw [P7.i 2 (by omega), P7.i 8 (by omega), v 2 (by omega), v 8 (by omega)] at h8
    have P8 : Agree 12 ρ q8 := P7.trans (g8.mono (by omega))
    refine ⟨⟨_, _, rfl⟩, fun q9 g9 ⟨F9, hp9, _, _⟩ => ?_⟩
    have h9 := two_post hp9
    have h9 : q9.i 20 = moreI (q8.i 3) (q8.i 9) := by simpa using h9
    rw [P8.i 3 (by omega), P8.i 9 (by omega), v 3 (by omega), v 9 (by omega)] at h9
    have P9 : Agree 12 ρ q9 := P8.trans (g9.mono (by omega))
    refine ⟨⟨_, _, rfl⟩, fun q10 g10 ⟨F10, hp10, _, _⟩ => ?_⟩
    have h10 := two_post hp10
    have h10 : q10.i 21 = moreI (q9.i 4) (q9.i 10) := by simpa using h10
    rw [P9.i 4 (by omega), P9.i 10 (by omega), v 4 (by omega), v 10 (by omega)] at h10
    have P10 : Agree 12 ρ q10 := P9.trans (g10.mono (by omega))
    refine ⟨⟨_, _, rfl⟩, fun q11 g11 ⟨F11, hp11, _, _⟩ => ?_⟩
    have h11 := two_post hp11
    have h11 : q11.i 22 = moreI (q10.i 5) (q10.i 11) := by simpa using h11
    rw [P10.i 5 (by omega), P10.i 11 (by omega), v 5 (by omega), v 11 (by omega)] at h11
    have P11 : Agree 12 ρ q11 := P10.trans (g11.mono (by omega))
    have e0 : q11.i 17 = moreI a0 b0 := by rw [g11.i 17 (by omega), g10.i 17 (by omega), g9.i 17 (by omega), g8.i 17 (by omega), g7.i 17 (by omega)]; exact h6
    have e1 : q11.i 18 = moreI a1 b1 := by rw [g11.i 18 (by omega), g10.i 18 (by omega), g9.i 18 (by omega), g8.i 18 (by omega)]; exact h7
    have e2 : q11.i 19 = moreI a2 b2 := by rw [g11.i 19 (by omega), g10.i 19 (by omega), g9.i 19 (by omega)]; exact h8
    have e3 : q11.i 20 = moreI a3 b3 := by rw [g11.i 20 (by omega), g10.i 20 (by omega)]; exact h9
    have e4 : q11.i 21 = moreI a4 b4 := by rw [g11.i 21 (by omega)]; exact h10
    have e5 : q11.i 22 = moreI a5 b5 := by exact h11
    refine outOf rfl (v := .int .u64 (missL [a0, a1, a2, a3, a4, a5] [b0, b1, b2, b3, b4, b5])) ?_ (shI rfl _) ⟨_, _, rfl, rfl⟩
    simp only [TV.ev, SV.ev, CV.ev, iev_wrap, iev_add, iev_var]
    rw [e0, e1, e2, e3, e4, e5]
    show _ = Value.int .u64 (IntKind.u64.wrap (IntKind.u64.wrap (IntKind.u64.wrap (IntKind.u64.wrap (IntKind.u64.wrap (IntKind.u64.wrap (0 + moreI a0 b0) + moreI a1 b1) + moreI a2 b2) + moreI a3 b3) + moreI a4 b4) + moreI a5 b5))
    rw [Int.zero_add]
theorem vΓ_ok : ∀ t ∈ vΓ, t.OK Try.prog := fun t ht => by
  simp only [vΓ, List.mem_cons, List.mem_nil_iff, or_false] at ht
  rcases ht with rfl | rfl | rfl
  · exact greaterS_ok
  · exact moreS_ok
  · exact joinS_ok
def greatW : Walk Try.prog vΓ greatS2.fn where
  Λ := noLoops
  args := [.sv (.agg (Sx.ckCVs 0 v6s)), .sv (.agg (Sx.ckCVs 6 v6s))]
  mem := []
  nv := 12
  nd := greatNd
  ok := by kernel_rfl
theorem greatS2_ok : greatS2.OK Try.prog := by
  refine Spec.of_fn (Γ := vΓ) vΓ_ok ?_
  rintro xs Hs Rs hl1 hl2 ⟨a, b, rfl, ha, hb⟩
  have e0 : Hs = [] := List.length_eq_zero_iff.1 hl1
  have e1 : Rs = [] := List.length_eq_zero_iff.1 hl2
  subst e0; subst e1
  match a, ha, b, hb with
  | [a0, a1, a2, a3, a4, a5], _, [b0, b1, b2, b3, b4, b5], _ =>
    refine ⟨greatW, envI [a0, a1, a2, a3, a4, a5, b0, b1, b2, b3, b4, b5] false [], fun _ _ => True, fun _ _ => 0, rfl, entry0, (fun _ h => nomatch h), ?_⟩
    show Nd.holds _ _ _ greatNd
    unfold greatNd
    generalize hρ : envI [a0, a1, a2, a3, a4, a5, b0, b1, b2, b3, b4, b5] false [] = ρ
    have v : ∀ k, k < 12 → ρ.i k = [a0, a1, a2, a3, a4, a5, b0, b1, b2, b3, b4, b5].getD k 0 := by
      intro k hk; rw [← hρ]; rfl
    simp only [Nd.holds, X.pre, X.rel, X.n, Src.ok, Src.len, Src.vals, true_and, and_true, if_true, Nat.mul_one, Nat.add_zero, Nat.reduceAdd, List.length_cons, List.length_nil, bT_tt, bT_ff, bT_bvar, bT_not, bT_and, bT_or, bT_ite, bT_lt, bT_le, bT_eq, bT_beq, bT_seq, bT_hB, bT_his, bT_hby, bT_hism, bT_hks, iev_lit, iev_var, iev_add, iev_sub, iev_mul, iev_wrap, iev_ite, iev_hI, iev_hP, iev_hmlen, sev_ite, sev_slit, sev_sof, sev_svar, TV.ev, SV.ev, CV.ev, List.map_cons, List.map_nil, Res.hl, cpTV, Cp.sv, Ck.cv, cpSVs, Cp.len, Ck.len, newHs_zero, newHs_one, roots_ne, vg2, vr2]
    intro q1 g1 _ q2 g2 _
    have P2 : Agree 12 ρ q2 := g1.trans (g2.mono (by omega))
    have eA : vecQ q2 0 = [a0, a1, a2, a3, a4, a5] := by
      unfold vecQ
      rw [P2.i 0 (by omega), P2.i 1 (by omega), P2.i 2 (by omega), P2.i 3 (by omega), P2.i 4 (by omega), P2.i 5 (by omega), v 0 (by omega), v 1 (by omega), v 2 (by omega), v 3 (by omega), v 4 (by omega), v 5 (by omega)]; rfl
    have eB : vecQ q2 6 = [b0, b1, b2, b3, b4, b5] := by
      unfold vecQ
      rw [P2.i 6 (by omega), P2.i 7 (by omega), P2.i 8 (by omega), P2.i 9 (by omega), P2.i 10 (by omega), P2.i 11 (by omega), v 6 (by omega), v 7 (by omega), v 8 (by omega), v 9 (by omega), v 10 (by omega), v 11 (by omega)]; rfl
    refine ⟨⟨vecQ q2 0, vecQ q2 6, rfl, rfl, rfl⟩, fun q3 g3 ⟨F3, hp3, _, _⟩ => ?_⟩
    have h3 : vecV (vecQ q3 14) = vecV (joinL (vecQ q2 0) (vecQ q2 6)) := vec_post (a := vecQ q2 0) (b := vecQ q2 6) hp3
    have h3 := vecV_inj h3
    rw [eA, eB] at h3
    have P3 : Agree 12 ρ q3 := P2.trans (g3.mono (by omega))
    refine outOf rfl (v := .bool (greatL2 [a0, a1, a2, a3, a4, a5] [b0, b1, b2, b3, b4, b5])) ?_ (shB rfl _) ⟨_, _, rfl, rfl⟩
    unfold greatL2
    rw [← h3]
    simp only [TV.ev, SV.ev, CV.ev, Value.bool.injEq]
    rw [Bool.eq_iff_iff]
    simp only [bT_and, bT_eq, iev_var, decide_eq_true_eq]
    rw [P3.i 0 (by omega), P3.i 1 (by omega), P3.i 2 (by omega), P3.i 3 (by omega), P3.i 4 (by omega), P3.i 5 (by omega), v 0 (by omega), v 1 (by omega), v 2 (by omega), v 3 (by omega), v 4 (by omega), v 5 (by omega)]
    unfold vecQ
    simp [List.cons.injEq]
/-! ### awake -/
def awakeS : Sx.Spec where
  fn := 11
  own := []
  rd := []
  res := [.one .bool]
  pre := fun xs Hs Rs => xs = []
  post := fun xs Hs Rs v Hs' F => v = .bool true
def awakeNd : Nd := .and (.pre (.call 1 0 [.sv (.agg [.int .u64 (.lit 0), .int .u64 (.lit 0), .int .u64 (.lit 0), .int .u64 (.lit 0), .int .u64 (.lit 0), .int .u64 (.lit 0)]), .sv (.agg [.int .u64 (.lit 1), .int .u64 (.lit 2), .int .u64 (.lit 0), .int .u64 (.lit 0), .int .u64 (.lit 0), .int .u64 (.lit 0)])] [] [])) (.ext (.call 1 0 [.sv (.agg [.int .u64 (.lit 0), .int .u64 (.lit 0), .int .u64 (.lit 0), .int .u64 (.lit 0), .int .u64 (.lit 0), .int .u64 (.lit 0)]), .sv (.agg [.int .u64 (.lit 1), .int .u64 (.lit 2), .int .u64 (.lit 0), .int .u64 (.lit 0), .int .u64 (.lit 0), .int .u64 (.lit 0)])] [] []) (.and (.imp (.eq (.var 0) (.lit 3)) (.and (.pre (.call 0 1 [.sv (.agg [.int .u64 (.lit 1), .int .u64 (.lit 0), .int .u64 (.lit 0), .int .u64 (.lit 0), .int .u64 (.lit 0), .int .u64 (.lit 0)]), .sv (.agg [.int .u64 (.lit 0), .int .u64 (.lit 0), .int .u64 (.lit 0), .int .u64 (.lit 0), .int .u64 (.lit 0), .int .u64 (.lit 0)])] [] [])) (.ext (.call 0 1 [.sv (.agg [.int .u64 (.lit 1), .int .u64 (.lit 0), .int .u64 (.lit 0), .int .u64 (.lit 0), .int .u64 (.lit 0), .int .u64 (.lit 0)]), .sv (.agg [.int .u64 (.lit 0), .int .u64 (.lit 0), .int .u64 (.lit 0), .int .u64 (.lit 0), .int .u64 (.lit 0), .int .u64 (.lit 0)])] [] []) (.post [] (.sv (.one (.bool (.bvar 1)))))))) (.imp (.not (.eq (.var 0) (.lit 3))) (.post [] (.sv (.one (.bool .ff)))))))
def aΓ : List Sx.Spec := [greatS2, missS]
theorem aΓ_ok : ∀ t ∈ aΓ, t.OK Try.prog := fun t ht => by
  simp only [aΓ, List.mem_cons, List.mem_nil_iff, or_false] at ht
  rcases ht with rfl | rfl
  · exact greatS2_ok
  · exact missS_ok
theorem ag0 : aΓ[0]? = some greatS2 := rfl
theorem ag1 : aΓ[1]? = some missS := rfl
theorem ar0 : greatS2.res = [.one .bool] := rfl
theorem ar1 : missS.res = [.one (.int .u64)] := rfl
def awakeW : Walk Try.prog aΓ awakeS.fn where
  Λ := noLoops
  args := []
  mem := []
  nv := 0
  nd := awakeNd
  ok := by kernel_rfl
theorem awakeS_ok : awakeS.OK Try.prog := by
  refine Spec.of_fn (Γ := aΓ) aΓ_ok ?_
  rintro xs Hs Rs hl1 hl2 rfl
  have e0 : Hs = [] := List.length_eq_zero_iff.1 hl1
  have e1 : Rs = [] := List.length_eq_zero_iff.1 hl2
  subst e0; subst e1
  refine ⟨awakeW, envI [] false [], fun _ _ => True, fun _ _ => 0, rfl, entry0, (fun _ h => nomatch h), ?_⟩
  show Nd.holds _ _ _ awakeNd
  unfold awakeNd
  simp only [Nd.holds, X.pre, X.rel, X.n, Src.ok, Src.len, Src.vals, true_and, and_true, if_true, Nat.mul_one, Nat.add_zero, Nat.reduceAdd, List.length_cons, List.length_nil, bT_tt, bT_ff, bT_bvar, bT_not, bT_and, bT_or, bT_ite, bT_lt, bT_le, bT_eq, bT_beq, bT_seq, bT_hB, bT_his, bT_hby, bT_hism, bT_hks, iev_lit, iev_var, iev_add, iev_sub, iev_mul, iev_wrap, iev_ite, iev_hI, iev_hP, iev_hmlen, sev_ite, sev_slit, sev_sof, sev_svar, TV.ev, SV.ev, CV.ev, List.map_cons, List.map_nil, Res.hl, cpTV, Cp.sv, Ck.cv, cpSVs, Cp.len, Ck.len, newHs_zero, newHs_one, roots_ne, ag0, ag1, ar0, ar1]
  refine ⟨⟨[0, 0, 0, 0, 0, 0], [1, 2, 0, 0, 0, 0], rfl, rfl, rfl⟩, fun q1 g1 ⟨F1, hp1, _, _⟩ => ?_⟩
  have h1 := vec_post (a := [0, 0, 0, 0, 0, 0]) (b := [1, 2, 0, 0, 0, 0]) hp1
  have e3 : missL [0, 0, 0, 0, 0, 0] [1, 2, 0, 0, 0, 0] = 3 := by decide
  rw [e3] at h1
  have h1 : q1.i 0 = 3 := by simpa using h1
  refine ⟨fun _ => ⟨⟨[1, 0, 0, 0, 0, 0], [0, 0, 0, 0, 0, 0], rfl, rfl, rfl⟩, fun q2 g2 ⟨F2, hp2, _, _⟩ => ?_⟩, fun h => absurd h1 h⟩
  have h2 := vec_post (a := [1, 0, 0, 0, 0, 0]) (b := [0, 0, 0, 0, 0, 0]) hp2
  have e4 : greatL2 [1, 0, 0, 0, 0, 0] [0, 0, 0, 0, 0, 0] = true := by decide
  rw [e4] at h2
  exact outOf rfl (v := .bool true) h2 (shB rfl _) rfl
end Go.Proofs.Ytnlejejjeilpoaa.V2
