/- Layer 8: the reference's Of, as a contract. Condition: sectors of 64 bytes below 256. -/
import Derived.Test.YtnpepkjfeadbjaaCelR
set_option linter.unusedSimpArgs false
set_option linter.unusedVariables false
set_option linter.constructorNameAsVariable false
namespace Go.Proofs.Ytnpepkjfeadbjaa
open Go Go.Sx

def stk : List Ck := [Ck.int .u64] ++ u8s 16 ++ [Ck.sl]
/-- A state's value. -/
def stV (s : Int) (nt : List Int) (sl : Value) : Value := .agg ([Value.int .u64 s] ++ bys nt ++ [sl]).toArray
def mostOf (rows : List (List Int)) : Int := 64 * ((rows.length : Int) - 2)
def ofH (rows : List (List Int)) : List Int :=
  if (refH (rows.getD 1 []) 1 (mostOf rows)).2 = true ∧ ((refH (rows.getD 0 []) 0 (mostOf rows)).2 = false ∨ (refH (rows.getD 0 []) 0 (mostOf rows)).1.getD 0 0 < (refH (rows.getD 1 []) 1 (mostOf rows)).1.getD 0 0)
  then (refH (rows.getD 1 []) 1 (mostOf rows)).1 else (refH (rows.getD 0 []) 0 (mostOf rows)).1
def ofB (rows : List (List Int)) : List Int := (rows.drop 2).flatten.take ((ofH rows).getD 1 0).toNat
theorem refH_ok {bs : List Int} (hl : bs.length = 64) (place : Int) {most : Int} (hm : 0 ≤ most) : headOK (refH bs place most).1 ∧ (refH bs place most).1.getD 1 0 ≤ most := by
  unfold refH
  split
  · rename_i hg
    refine ⟨⟨?_, bigI_range _, bigI_range _⟩, hg.2.2⟩
    unfold headI
    simp only [List.length_append, List.length_cons, List.length_nil, List.length_take, List.length_drop, hl]
    rfl
  · exact ⟨⟨rfl, ⟨Int.le_refl _, by decide⟩, Int.le_refl _, by decide⟩, hm⟩
def rofS : Sx.Spec where
  fn := 17
  own := []
  rd := [0]
  res := [.agg stk]
  pre := fun xs Hs Rs => ∃ v rows R, xs = [v] ∧ Rs = [R] ∧ SlC R v rows ∧ 3 ≤ rows.length ∧ rows.length ≤ 16384 ∧ ∀ r ∈ rows, r.length = 64 ∧ byteL r
  post := fun xs Hs Rs v' Hs' F => ∃ v rows R sl, xs = [v] ∧ Rs = [R] ∧ SlC R v rows ∧ v' = stV ((ofH rows).getD 0 0) ((ofH rows).drop 2) sl ∧ OwB F 5 sl (ofB rows)
def rofNd : Nd := .ext (.alloc 5) (.and (.e (.le (.lit 0) (.var 2))) (.and (.e (.le (.lit 0) (.var 0))) (.and (.e (.le (.lit 0) (.var 1))) (.and (.e (.lt (.lit 0) (.var 2))) (.and (.e (.his 4 (.var 0) (.var 1) 0 .slice)) (.and (.pre (.call 0 6 [.sv (.one (.sl (.hP 4 (.var 0) (.var 1) 0 0) (.hP 4 (.var 0) (.var 1) 0 1) (.hP 4 (.var 0) (.var 1) 0 2) (.hP 4 (.var 0) (.var 1) 0 3))), .sv (.one (.int .i64 (.lit 0))), .sv (.one (.int .i64 (.wrap .i64 (.mul (.lit 64) (.wrap .i64 (.sub (.var 2) (.lit 2)))))))] [] [.ro 4 [.var 0] false])) (.ext (.call 0 6 [.sv (.one (.sl (.hP 4 (.var 0) (.var 1) 0 0) (.hP 4 (.var 0) (.var 1) 0 1) (.hP 4 (.var 0) (.var 1) 0 2) (.hP 4 (.var 0) (.var 1) 0 3))), .sv (.one (.int .i64 (.lit 0))), .sv (.one (.int .i64 (.wrap .i64 (.mul (.lit 64) (.wrap .i64 (.sub (.var 2) (.lit 2)))))))] [] [.ro 4 [.var 0] false]) (.ext (.alloc 25) (.and (.e (.lt (.lit 1) (.var 2))) (.and (.e (.his 4 (.var 0) (.add (.var 1) (.lit 1)) 0 .slice)) (.and (.pre (.call 0 26 [.sv (.one (.sl (.hP 4 (.var 0) (.add (.var 1) (.lit 1)) 0 0) (.hP 4 (.var 0) (.add (.var 1) (.lit 1)) 0 1) (.hP 4 (.var 0) (.add (.var 1) (.lit 1)) 0 2) (.hP 4 (.var 0) (.add (.var 1) (.lit 1)) 0 3))), .sv (.one (.int .i64 (.lit 1))), .sv (.one (.int .i64 (.wrap .i64 (.mul (.lit 64) (.wrap .i64 (.sub (.var 2) (.lit 2)))))))] [] [.ro 4 [.var 0] false])) (.ext (.call 0 26 [.sv (.one (.sl (.hP 4 (.var 0) (.add (.var 1) (.lit 1)) 0 0) (.hP 4 (.var 0) (.add (.var 1) (.lit 1)) 0 1) (.hP 4 (.var 0) (.add (.var 1) (.lit 1)) 0 2) (.hP 4 (.var 0) (.add (.var 1) (.lit 1)) 0 3))), .sv (.one (.int .i64 (.lit 1))), .sv (.one (.int .i64 (.wrap .i64 (.mul (.lit 64) (.wrap .i64 (.sub (.var 2) (.lit 2)))))))] [] [.ro 4 [.var 0] false]) (.ext (.alloc 45) (.and (.and (.imp (.bvar 44) (.and (.imp (.bvar 24) (.and (.imp (.lt (.var 6) (.var 26)) (.inv 1 (([⟨50, 0, .int .i64 (.var 26)⟩, ⟨51, 0, .int .i64 (.var 27)⟩] : List As) ++ (mLd 46 (ckCVs 52 (List.replicate 16 (Ck.int .u8))) (ckCVs 28 (List.replicate 16 (Ck.int .u8))))) [])) (.imp (.not (.lt (.var 6) (.var 26))) (.inv 1 (([⟨50, 0, .int .i64 (.var 6)⟩, ⟨51, 0, .int .i64 (.var 7)⟩] : List As) ++ (mLd 46 (ckCVs 52 (List.replicate 16 (Ck.int .u8))) (ckCVs 8 (List.replicate 16 (Ck.int .u8))))) [])))) (.imp (.not (.bvar 24)) (.inv 1 (([⟨50, 0, .int .i64 (.var 26)⟩, ⟨51, 0, .int .i64 (.var 27)⟩] : List As) ++ (mLd 46 (ckCVs 52 (List.replicate 16 (Ck.int .u8))) (ckCVs 28 (List.replicate 16 (Ck.int .u8))))) [])))) (.imp (.not (.bvar 44)) (.inv 1 (([⟨50, 0, .int .i64 (.var 6)⟩, ⟨51, 0, .int .i64 (.var 7)⟩] : List As) ++ (mLd 46 (ckCVs 52 (List.replicate 16 (Ck.int .u8))) (ckCVs 8 (List.replicate 16 (Ck.int .u8))))) []))) (.havoc 0 1 46 (.and (.inv 0 [⟨80, 0, .int .i64 (.lit (-1))⟩, ⟨82, 0, .int .i64 (.lit 0)⟩, ⟨83, 0, .int .i64 (.lit 0)⟩, ⟨84, 0, .int .i64 (.lit 2)⟩] [(85, none)]) (.havoc 0 0 70 (.and (.imp (.lt (.var 84) (.var 2)) (.and (.e (.le (.lit 0) (.var 84))) (.and (.e (.his 4 (.var 0) (.add (.var 1) (.var 84)) 0 .slice)) (.and (.pre (.app 90 5 1 1 (.sl (.var 80) (.lit 0) (.var 82) (.var 83)) (.var 82) (.hp 85 [] [.var 80] []) (.seg 4 (.hP 4 (.var 0) (.add (.var 1) (.var 84)) 0 0) (.hP 4 (.var 0) (.add (.var 1) (.var 84)) 0 1) (.hP 4 (.var 0) (.add (.var 1) (.var 84)) 0 2)))) (.ext (.app 90 5 1 1 (.sl (.var 80) (.lit 0) (.var 82) (.var 83)) (.var 82) (.hp 85 [] [.var 80] []) (.seg 4 (.hP 4 (.var 0) (.add (.var 1) (.var 84)) 0 0) (.hP 4 (.var 0) (.add (.var 1) (.var 84)) 0 1) (.hP 4 (.var 0) (.add (.var 1) (.var 84)) 0 2))) (.back 0 0 [⟨80, 0, .int .i64 (.var 90)⟩, ⟨82, 0, .int .i64 (.add (.var 82) (.hP 4 (.var 0) (.add (.var 1) (.var 84)) 0 2))⟩, ⟨83, 0, .int .i64 (.var 91)⟩, ⟨84, 0, .int .i64 (.wrap .i64 (.add (.var 84) (.lit 1)))⟩] [(85, some 90)])))))) (.imp (.not (.lt (.var 84) (.var 2))) (.and (.e (.le (.lit (-1)) (.var 80))) (.and (.e (.le (.lit 0) (.var 51))) (.and (.e (.le (.var 51) (.var 83))) (.post [.ro 4 [.var 0] false, .dead, .dead, .dead, .hp 85 [] [.var 80] []] (.sv (.agg ([.int .u64 (.var 50)] ++ ckCVs 52 (List.replicate 16 (Ck.int .u8)) ++ [.sl (.var 80) (.lit 0) (.var 51) (.var 83)]))))))))))))))))))))))))))
def rofΓ : List Sx.Spec := [rheadS]
theorem rofΓ_ok : ∀ t ∈ rofΓ, t.OK Try.prog := fun t ht => by
  rw [rofΓ, List.mem_singleton] at ht; subst ht; exact rheadS_ok
def rofW : Walk Try.prog rofΓ rofS.fn where
  Λ := fun p => if lp p then some ⟨0, [(12, .sv (.one (.sl (.var 80) (.lit 0) (.var 82) (.var 83)))), (13, TI .i64 (.var 84))], [(4, .hp 85 [] [.var 80] [])], 90⟩ else if cutAt p [17, 1, 1, 1, 1, 0] then some ⟨1, [(4, TI .u64 (.var 50)), (5, TI .u64 (.var 51))], [(2, .blk 25 (ckCVs 52 (u8s 16)) 32)], 70⟩ else none
  args := [.sv (.one (.sl (.var 0) (.var 1) (.var 2) (.var 3)))]
  mem := [.ro 4 [.var 0] false]
  nv := 5
  nd := rofNd
  ok := by kernel_rfl
theorem rog0 : rofΓ[0]? = some rheadS := rfl
theorem ror0 : rheadS.res = [.one (.int .u64), .one (.int .u64), .agg (u8s 16), .one .bool] := rfl
def rofInv (rows : List (List Int)) : Nat → Env → Prop
  | 1, q => q.i 50 = (ofH rows).getD 0 0 ∧ q.i 51 = (ofH rows).getD 1 0 ∧ (ckCVs 52 (u8s 16)).map (CV.ev q) = bys ((ofH rows).drop 2)
  | _, q => ∃ i : Nat, q.i 84 = i ∧ 2 ≤ i ∧ i ≤ rows.length ∧ -1 ≤ q.i 80 ∧ 0 ≤ q.i 83 ∧ q.i 82 = (((rows.drop 2).take (i - 2)).flatten.length : Nat) ∧ OwB (q.h 85) 5 (.slice (slP (q.i 80) 0) (q.i 82).toNat (q.i 83).toNat) ((rows.drop 2).take (i - 2)).flatten
theorem flat64 : ∀ {l : List (List Int)}, (∀ r ∈ l, r.length = 64) → l.flatten.length = 64 * l.length
  | [], _ => rfl
  | r :: l, h => by
    rw [List.flatten_cons, List.length_append, h r (by simp), flat64 fun r hr => h r (by simp [hr]), List.length_cons]; omega
theorem stV_rep (s : Int) (nt : List Int) (hn : nt.length = 16) {x y l c : Int} (hx : -1 ≤ x) (hy : 0 ≤ y) (hl : 0 ≤ l) (hc : 0 ≤ c) : ∃ ρ2, stV s nt (.slice (slP x y) l.toNat c.toNat) = TV.ev ρ2 (cpTV 0 [.agg stk]) ∧ cpNorms 0 [.agg stk] ρ2 := by
  obtain ⟨a1, a2, a3, a4, a5, a6, a7, a8, a9, a10, a11, a12, a13, a14, a15, a16, rfl⟩ := list16 hn
  exact ⟨envI [s, a1, a2, a3, a4, a5, a6, a7, a8, a9, a10, a11, a12, a13, a14, a15, a16, x, y, l, c] false [], rfl, ⟨trivial, trivial, trivial, trivial, trivial, trivial, trivial, trivial, trivial, trivial, trivial, trivial, trivial, trivial, trivial, trivial, trivial, ⟨hx, hy, hl, hc⟩, trivial⟩, trivial⟩
theorem rofS_ok : rofS.OK Try.prog := by
  refine Spec.of_fn (Γ := rofΓ) rofΓ_ok ?_
  rintro xs Hs Rs hl1 hl2 ⟨v, rows, R, rfl, rfl, hSl, hr3, hr16, h64⟩
  have e0 : Hs = [] := List.length_eq_zero_iff.1 hl1
  subst e0
  obtain ⟨x, y, c, us, rfl, hy, hcap, hul, huc, hur⟩ := id hSl
  refine ⟨rofW, envI [x, y, us.length, c] false [Hl.none, Hl.none, Hl.none, Hl.none, R], rofInv rows, fun j q => if j = 0 then (rows.length - q.i 84).toNat else 0, ?_, ⟨?_, ?_, ?_, ?_⟩, (fun _ h => nomatch h), ?_⟩
  · show [Value.slice (slP x y) ((us.length : Int)).toNat ((c : Int)).toNat] = _
    rw [Int.toNat_natCast, Int.toNat_natCast]
  · intro r hr ho; simp [rofW] at hr; subst hr; cases ho
  · intro r hr ho; simp [rofW] at hr; subst hr; exact ⟨R, by simp, Hl.le_refl _⟩
  · simp [rofW]
  · intro r hr; simp [rofW] at hr; subst hr; trivial
  · show Nd.holds _ _ _ rofNd
    generalize hρ : envI [x, y, us.length, c] false [Hl.none, Hl.none, Hl.none, Hl.none, R] = ρ
    have v0 : ρ.i 0 = x := by rw [← hρ]; rfl
    have v1 : ρ.i 1 = y := by rw [← hρ]; rfl
    have v2 : ρ.i 2 = rows.length := by rw [← hρ, ← hul]; rfl
    have w4 : ρ.h 4 = R := by rw [← hρ]; rfl
    have row : ∀ j, j < rows.length → ∃ u, us[j]? = some u ∧ 0 ≤ x ∧ R.cell x.toNat (y + (j : Int)).toNat = some u ∧ RdC R u (rows.getD j []) ∧ (rows.getD j []).length = 64 ∧ byteL (rows.getD j []) := by
      intro j hj
      have hu := List.getElem?_eq_getElem (show j < us.length by omega)
      have hr := List.getElem?_eq_getElem hj
      have e : rows.getD j [] = rows[j] := by rw [List.getD_eq_getElem?_getD, hr]; rfl
      obtain ⟨hx, hc⟩ := huc j _ hu
      refine ⟨_, hu, hx, by rw [show (y + (j : Int)).toNat = y.toNat + j by omega]; exact hc, ?_, ?_⟩
      · rw [e]; exact hur j _ _ hu hr
      · rw [e]; exact h64 _ (List.getElem_mem _)
    obtain ⟨u0, hu0, hx0, hc0, hR0, hl0, hb0⟩ := row 0 (by omega)
    obtain ⟨u1, hu1, _, hc1, hR1, hl1', hb1⟩ := row 1 (by omega)
    have slc : ∀ {u bs}, RdC R u bs → ∃ a l c, u = Value.slice a l c := fun h => by
      obtain ⟨_, _, _, h, _⟩ := h; exact ⟨_, _, _, h⟩
    obtain ⟨m, hm⟩ : ∃ m, m = mostOf rows := ⟨_, rfl⟩
    have hm0 : 0 ≤ m ∧ m ≤ 1048576 := by rw [hm]; unfold mostOf; omega
    have em : IntKind.i64.wrap (64 * IntKind.i64.wrap ((rows.length : Int) - 2)) = m := by
      rw [hm]; unfold mostOf
      rw [wrap_i64 (n := (rows.length : Int) - 2) (by omega) (by omega), wrap_i64 (by omega) (by omega)]
    obtain ⟨ok0, le0⟩ := refH_ok hl0 0 hm0.1
    obtain ⟨ok1, le1⟩ := refH_ok hl1' 1 hm0.1
    unfold rofNd
    simp only [Nd.holds, X.pre, X.rel, X.n, Src.ok, Src.len, Src.vals, true_and, and_true, if_true, Nat.mul_one, Nat.add_zero, Nat.reduceAdd, List.length_cons, List.length_nil, bT_tt, bT_ff, bT_bvar, bT_not, bT_and, bT_or, bT_ite, bT_lt, bT_le, bT_eq, bT_beq, bT_seq, bT_hB, bT_his, bT_hby, bT_hism, bT_hks, iev_lit, iev_var, iev_add, iev_sub, iev_mul, iev_wrap, iev_ite, iev_hI, iev_hP, iev_hmlen, sev_ite, sev_slit, sev_sof, sev_svar, TV.ev, SV.ev, CV.ev, List.map_cons, List.map_nil, Res.hl, cpTV, Cp.sv, Ck.cv, cpSVs, Cp.len, Ck.len, newHs_zero, newHs_one, roots_ne, rog0, ror0]
    intro q1 g1 _
    have hc0 : R.cell x.toNat y.toNat = some u0 := by have := hc0; rwa [show (y + ((0 : Nat) : Int)) = y by omega] at this
    have hc1 : R.cell x.toNat (y + 1).toNat = some u1 := hc1
    rw [g1.i 2 (by omega), v2, g1.i 0 (by omega), v0, g1.i 1 (by omega), v1, g1.h 4 (by omega), w4, hc0, sl_parts (slc hR0), em]
    refine ⟨by omega, hx0, hy, by omega, by obtain ⟨a, l, c, rfl⟩ := slc hR0; rfl, ⟨u0, 0, m, _, R, rfl, rfl, hR0, hl0, hb0, Or.inl rfl, hm0.1, hm0.2⟩, fun q2 g2 ⟨F2, ⟨u', pl', mo', bs', R', hx2, hR2, hrc2, hv2⟩, _, _⟩ q3 g3 _ => ?_⟩
    have hx2 : u0 = u' ∧ 0 = pl' ∧ m = mo' := by simpa using hx2
    obtain ⟨rfl, rfl, rfl⟩ := hx2
    have hR2 : R = R' := by simpa using hR2
    subst hR2
    have e := hrc2.w.uniq hR0.w
    subst e
    obtain ⟨A, hA⟩ : ∃ A, A = refH (rows.getD 0 []) 0 m := ⟨_, rfl⟩
    rw [← hA] at hv2 ok0 le0
    have P3 : Agree 5 ρ q3 := (g1.trans (g2.mono (by omega))).trans (g3.mono (by omega))
    rw [P3.i 2 (by omega), v2, P3.i 0 (by omega), v0, P3.i 1 (by omega), v1, P3.h 4 (by omega), w4, hc1, sl_parts (slc hR1), em]
    refine ⟨by omega, by obtain ⟨a, l, c, rfl⟩ := slc hR1; rfl, ⟨u1, 1, m, _, R, rfl, rfl, hR1, hl1', hb1, Or.inr rfl, hm0.1, hm0.2⟩, fun q4 g4 ⟨F4, ⟨u', pl', mo', bs', R', hx4, hR4, hrc4, hv4⟩, _, _⟩ q5 g5 _ => ?_⟩
    have hx4 : u1 = u' ∧ 1 = pl' ∧ m = mo' := by simpa using hx4
    obtain ⟨rfl, rfl, rfl⟩ := hx4
    have hR4 : R = R' := by simpa using hR4
    subst hR4
    have e := hrc4.w.uniq hR1.w
    subst e
    obtain ⟨B, hB⟩ : ∃ B, B = refH (rows.getD 1 []) 1 m := ⟨_, rfl⟩
    rw [← hB] at hv4 ok1 le1
    have hv2 : Value.tuple #[Value.int .u64 (q2.i 6), Value.int .u64 (q2.i 7), Value.agg (List.map (CV.ev q2) (ckCVs 8 (u8s 16))).toArray, Value.bool (q2.b 24)] = headT A := hv2
    have hv4 : Value.tuple #[Value.int .u64 (q4.i 26), Value.int .u64 (q4.i 27), Value.agg (List.map (CV.ev q4) (ckCVs 28 (u8s 16))).toArray, Value.bool (q4.b 44)] = headT B := hv4
    unfold headT at hv2 hv4
    simp only [Value.tuple.injEq, Array.mk.injEq, List.cons.injEq, Value.int.injEq, Value.bool.injEq, Value.agg.injEq, true_and, and_true] at hv2 hv4
    obtain ⟨a6, a7, a8, a24⟩ := hv2
    obtain ⟨b26, b27, b28, b44⟩ := hv4
    have G25 : Agree 25 q2 q5 := (g3.trans (g4.mono (by omega))).trans (g5.mono (by omega))
    have c6 : q5.i 6 = A.1.getD 0 0 := by rw [G25.i 6 (by omega), a6]
    have c7 : q5.i 7 = A.1.getD 1 0 := by rw [G25.i 7 (by omega), a7]
    have c8 : List.map (CV.ev q5) (ckCVs 8 (u8s 16)) = bys (A.1.drop 2) := by rw [CV.agreeL (G25.mono (by decide)) _ (ckCVs_upto (u8s 16) 8)]; exact a8
    have c24 : q5.b 24 = A.2 := by rw [G25.b 24 (by omega), a24]
    have d26 : q5.i 26 = B.1.getD 0 0 := by rw [g5.i 26 (by omega), b26]
    have d27 : q5.i 27 = B.1.getD 1 0 := by rw [g5.i 27 (by omega), b27]
    have d28 : List.map (CV.ev q5) (ckCVs 28 (u8s 16)) = bys (B.1.drop 2) := by rw [CV.agreeL (g5.mono (by decide)) _ (ckCVs_upto (u8s 16) 28)]; exact b28
    have d44 : q5.b 44 = B.2 := by rw [g5.b 44 (by omega), b44]
    have hof : ofH rows = if B.2 = true ∧ (A.2 = false ∨ A.1.getD 0 0 < B.1.getD 0 0) then B.1 else A.1 := by
      unfold ofH
      rw [← hm, ← hA, ← hB]
    have pickA : ofH rows = A.1 → rofInv rows 1 (assign q5 (([⟨50, 0, .int .i64 (.var 6)⟩, ⟨51, 0, .int .i64 (.var 7)⟩] : List As) ++ (mLd 46 (ckCVs 52 (List.replicate 16 (Ck.int .u8))) (ckCVs 8 (List.replicate 16 (Ck.int .u8))))) []) := by
      intro h
      have e := assign_ag (n0 := 46) (ρ := q5) (A := ([⟨50, 0, .int .i64 (.var 6)⟩, ⟨51, 0, .int .i64 (.var 7)⟩] : List As) ++ (mLd 46 (ckCVs 52 (List.replicate 16 (Ck.int .u8))) (ckCVs 8 (List.replicate 16 (Ck.int .u8))))) (hs := []) (l := ckCVs 52 (List.replicate 16 (Ck.int .u8))) (m := ckCVs 8 (List.replicate 16 (Ck.int .u8))) (by kernel_rfl) (by kernel_rfl) (fun y hy => List.mem_append_right _ hy)
      refine ⟨?_, ?_, ?_⟩
      · show q5.i 6 = _
        rw [h, c6]
      · show q5.i 7 = _
        rw [h, c7]
      · have e : Value.agg (List.map (CV.ev _) (ckCVs 52 (u8s 16))).toArray = Value.agg (List.map (CV.ev q5) (ckCVs 8 (u8s 16))).toArray := e
        rw [c8, ← h] at e
        simpa using e
    have pickB : ofH rows = B.1 → rofInv rows 1 (assign q5 (([⟨50, 0, .int .i64 (.var 26)⟩, ⟨51, 0, .int .i64 (.var 27)⟩] : List As) ++ (mLd 46 (ckCVs 52 (List.replicate 16 (Ck.int .u8))) (ckCVs 28 (List.replicate 16 (Ck.int .u8))))) []) := by
      intro h
      have e := assign_ag (n0 := 46) (ρ := q5) (A := ([⟨50, 0, .int .i64 (.var 26)⟩, ⟨51, 0, .int .i64 (.var 27)⟩] : List As) ++ (mLd 46 (ckCVs 52 (List.replicate 16 (Ck.int .u8))) (ckCVs 28 (List.replicate 16 (Ck.int .u8))))) (hs := []) (l := ckCVs 52 (List.replicate 16 (Ck.int .u8))) (m := ckCVs 28 (List.replicate 16 (Ck.int .u8))) (by kernel_rfl) (by kernel_rfl) (fun y hy => List.mem_append_right _ hy)
      refine ⟨?_, ?_, ?_⟩
      · show q5.i 26 = _
        rw [h, d26]
      · show q5.i 27 = _
        rw [h, d27]
      · have e : Value.agg (List.map (CV.ev _) (ckCVs 52 (u8s 16))).toArray = Value.agg (List.map (CV.ev q5) (ckCVs 28 (u8s 16))).toArray := e
        rw [d28, ← h] at e
        simpa using e
    rw [d44, c24, c6, d26]
    refine ⟨⟨fun hb => ⟨fun ha => ⟨fun hlt => pickB ?_, fun hge => pickA ?_⟩, fun ha => pickB ?_⟩, fun hb => pickA ?_⟩, fun q6 g6 ⟨j50, j51, j52⟩ => ⟨⟨2, rfl, by omega, by omega, Int.le_refl _, Int.le_refl _, by simp; rfl, ?_⟩, fun q7 g7 ⟨i, e84, hi2, hi, e80, e83, e82, hO⟩ => ?_⟩⟩
    · rw [hof, if_pos ⟨hb, Or.inr hlt⟩]
    · rw [hof, if_neg]
      rintro ⟨_, h | h⟩
      · rw [ha] at h; cases h
      · exact hge h
    · rw [hof, if_pos ⟨hb, Or.inl (by simpa using ha)⟩]
    · rw [hof, if_neg fun h => hb h.1]
    · have e : ((rows.drop 2).take (2 - 2)).flatten = [] := by simp
      rw [e]
      exact ⟨rfl, Or.inl ⟨rfl, rfl⟩⟩
    · have P7 : Agree 5 ρ q7 := (((P3.trans (g4.mono (by omega))).trans (g5.mono (by omega))).trans (g6.mono (by omega))).trans (g7.mono (by omega))
      have hOl : ((rows.drop 2).take (i - 2)).flatten.length = 64 * (i - 2) := by
        rw [flat64 (l := (rows.drop 2).take (i - 2)) fun r hr => (h64 r (List.mem_of_mem_drop (List.mem_of_mem_take hr))).1, List.length_take, List.length_drop]
        congr 1; omega
      have hle1 : (ofH rows).getD 1 0 ≤ m ∧ 0 ≤ (ofH rows).getD 1 0 := by
        rw [hof]
        split
        · exact ⟨le1, ok1.2.2.1⟩
        · exact ⟨le0, ok0.2.2.1⟩
      have hmr : m = 64 * ((rows.length : Int) - 2) := hm
      rw [e84, P7.i 2 (by omega), v2, P7.i 0 (by omega), v0, P7.i 1 (by omega), v1, P7.h 4 (by omega), w4]
      refine ⟨fun hlt => ?_, fun hge => ?_⟩
      · obtain ⟨u, hu, _, hcu, hRu, hlu, _⟩ := row i (by omega)
        obtain ⟨hsl, h2, hcb, htx⟩ := RdW.parts hRu.w
        obtain ⟨xx, yy, cc, eu, hyy, hcc, hxx, hcell⟩ := id hRu
        have p0 : valP (some u) 0 = xx := by rw [eu]; exact valP_sl0 (by omega) _ _
        have p1 : valP (some u) 1 = yy := by rw [eu]; exact valP_sl1 hxx hyy _ _
        rw [hcu, p0, p1, h2, hlu]
        have hO' : OwnsH (q7.h 85) 5 1 (.slice (slP (q7.i 80) 0) (q7.i 82).toNat (q7.i 83).toNat) (q7.i 82).toNat (bys ((rows.drop 2).take (i - 2)).flatten) := by
          unfold OwB at hO
          rw [e82, Int.toNat_natCast] at hO ⊢
          exact hO
        refine ⟨by omega, by obtain ⟨a, l, c, rfl⟩ := hsl; rfl, ⟨⟨_, hO'⟩, by omega, Or.inl ⟨hxx, hyy, by omega, fun j hj => ?_⟩, by unfold maxLen; omega, by omega⟩, fun q8 g8 ⟨a1, a2, a3, _⟩ => ?_⟩
        · have hj : j < (rows.getD i []).length := by rw [hlu]; omega
          exact ⟨_, hcell j _ (List.getElem?_eq_getElem hj), rfl⟩
        · have hseg : segVals R xx.toNat yy.toNat (((64 : Nat) : Int)).toNat = bys (rows.getD i []) := by
            unfold segVals
            apply List.ext_getElem?
            intro j
            rw [List.getElem?_map, bys_get]
            rcases Nat.lt_or_ge j 64 with hj | hj
            · rw [Int.toNat_natCast, List.getElem?_range hj, Option.map_some, hcell j _ (List.getElem?_eq_getElem (by omega)), List.getElem?_eq_getElem (by omega)]
              rfl
            · rw [List.getElem?_eq_none (by simpa using hj), List.getElem?_eq_none (by omega)]; rfl
          have hx8 := a3 _ hO'
          rw [hseg] at hx8
          have hcat : ((rows.drop 2).take (i + 1 - 2)).flatten = ((rows.drop 2).take (i - 2)).flatten ++ rows.getD i [] := by
            rw [show i + 1 - 2 = (i - 2) + 1 by omega, List.take_add_one, List.getElem?_drop, show 2 + (i - 2) = i by omega, List.getElem?_eq_getElem (show i < rows.length by omega), List.getD_eq_getElem?_getD, List.getElem?_eq_getElem (show i < rows.length by omega)]
            simp
          have P8 : Agree 5 ρ q8 := P7.trans (g8.mono (by omega))
          have f84 : q8.i 84 = i := by rw [g8.i 84 (by omega), e84]
          have m84 : (assign q8 [⟨80, 0, .int .i64 (.var 90)⟩, ⟨82, 0, .int .i64 (.add (.var 82) (.hP 4 (.var 0) (.add (.var 1) (.var 84)) 0 2))⟩, ⟨83, 0, .int .i64 (.var 91)⟩, ⟨84, 0, .int .i64 (.wrap .i64 (.add (.var 84) (.lit 1)))⟩] [(85, some 90)]).i 84 = i + 1 := by
            show IntKind.i64.wrap (q8.i 84 + 1) = _
            rw [f84, wrap_i64 (by omega) (by omega)]
          have m82 : (assign q8 [⟨80, 0, .int .i64 (.var 90)⟩, ⟨82, 0, .int .i64 (.add (.var 82) (.hP 4 (.var 0) (.add (.var 1) (.var 84)) 0 2))⟩, ⟨83, 0, .int .i64 (.var 91)⟩, ⟨84, 0, .int .i64 (.wrap .i64 (.add (.var 84) (.lit 1)))⟩] [(85, some 90)]).i 82 = (((rows.drop 2).take (i - 2)).flatten.length : Nat) + 64 := by
            show q8.i 82 + iev q8 (.hP 4 (.var 0) (.add (.var 1) (.var 84)) 0 2) = _
            rw [iev_hP, iev_var, iev_add, iev_var, iev_var, P8.i 0 (by omega), v0, P8.i 1 (by omega), v1, f84, P8.h 4 (by omega), w4, Nat.add_zero, hcu, h2, hlu, g8.i 82 (by omega), e82]
            rfl
          have hcl : ((rows.drop 2).take (i + 1 - 2)).flatten.length = ((rows.drop 2).take (i - 2)).flatten.length + 64 := by rw [hcat, List.length_append, hlu]
          refine ⟨⟨i + 1, by rw [m84]; omega, by omega, by omega, a1, a2, by rw [m82, hcl]; omega, ?_⟩, ?_⟩
          · rw [m82, hcat]
            show OwB (q8.h 90) _ (.slice (slP (q8.i 90) 0) _ (q8.i 91).toNat) _
            unfold OwB
            rw [bys_append, List.length_append, hlu]
            rw [show ((((rows.drop 2).take (i - 2)).flatten.length : Nat) + 64 : Int).toNat = ((rows.drop 2).take (i - 2)).flatten.length + 64 by omega]
            rw [e82, Int.toNat_natCast, Int.toNat_natCast] at hx8
            exact hx8
          · rw [m84]; omega
      · have hin : i = rows.length := by omega
        have f51 : q7.i 51 = (ofH rows).getD 1 0 := by rw [g7.i 51 (by omega), j51]
        have f50 : q7.i 50 = (ofH rows).getD 0 0 := by rw [g7.i 50 (by omega), j50]
        have f52 : List.map (CV.ev q7) (ckCVs 52 (u8s 16)) = bys ((ofH rows).drop 2) := by rw [CV.agreeL (g7.mono (by decide)) _ (ckCVs_upto (u8s 16) 52)]; exact j52
        have hcp := OwB.cap hO (by rw [e82]; omega) e83
        have hall : ((rows.drop 2).take (i - 2)).flatten = (rows.drop 2).flatten := by
          rw [List.take_of_length_le (by rw [List.length_drop]; omega)]
        rw [f51]
        refine ⟨e80, hle1.2, by rw [e82] at hcp; omega, fun _ => ?_⟩
        have ev : (TV.sv (SV.agg ([CV.int IntKind.u64 (E.var 50)] ++ ckCVs 52 (List.replicate 16 (Ck.int IntKind.u8)) ++ [CV.sl (E.var 80) (E.lit 0) (E.var 51) (E.var 83)]))).ev q7 = stV ((ofH rows).getD 0 0) ((ofH rows).drop 2) (.slice (slP (q7.i 80) 0) ((ofH rows).getD 1 0).toNat (q7.i 83).toNat) := by
          show Value.agg (List.map (CV.ev q7) ([CV.int IntKind.u64 (E.var 50)] ++ ckCVs 52 (u8s 16) ++ [CV.sl (E.var 80) (E.lit 0) (E.var 51) (E.var 83)])).toArray = _
          rw [List.map_append, List.map_append, f52]
          show Value.agg ([Value.int .u64 (q7.i 50)] ++ _ ++ [Value.slice (slP (q7.i 80) 0) (q7.i 51).toNat (q7.i 83).toNat]).toArray = _
          rw [f50, f51]; rfl
        refine ⟨[], [4], rfl, rfl, ?_, _, rows, R, _, rfl, rfl, hSl, ev, ?_⟩
        · rw [ev]
          have h18 : (ofH rows).length = 18 := by
            rw [hof]
            split
            · exact ok1.1
            · exact ok0.1
          exact stV_rep _ _ (by rw [List.length_drop]; omega) e80 (Int.le_refl _) hle1.2 e83
        · show OwB (hls [q7.h 85]) _ _ _
          rw [hls_one]
          rw [e82, hall] at hO
          unfold ofB
          exact OwB.pre hO e80 hle1.2 (by rw [← hall, hOl]; omega)
end Go.Proofs.Ytnpepkjfeadbjaa
