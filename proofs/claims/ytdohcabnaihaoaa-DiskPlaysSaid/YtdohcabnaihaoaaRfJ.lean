/- Layer 7: law07.DiskPlays, as a contract. Condition: bytes below 256. -/
import Derived.Test.YtdohcabnaihaoaaRfI
set_option linter.unusedSimpArgs false
set_option linter.unusedVariables false
set_option linter.constructorNameAsVariable false
namespace Go.Proofs.Ytdohcabnaihaoaa
open Go Go.Sx

/-- A call that is played. -/
def opRow7 (R : Hl) (row : List Value) (b : List Int) : Prop := ∃ k i x u, row = [.int .u8 k, .int .i64 i, .int .u8 x, u] ∧ i ≤ 9223372036854775807 ∧ RdW R u b ∧ ∀ z ∈ b, 0 ≤ z ∧ z < 256
def playsS : Sx.Spec where
  fn := 7
  own := []
  rd := [101]
  res := [.one .bool]
  pre := fun xs Hs Rs => ∃ nn v R rows, xs = [.int .u8 nn, v] ∧ Rs = [R] ∧ (0 ≤ nn ∧ nn < 256) ∧ RdRows R v opK7 rows ∧ ∀ row ∈ rows, ∃ b, opRow7 R row b
  post := fun xs Hs Rs v Hs' F => v = .bool true
def playsNd : Nd := .and (.pre (.call 0 6 [] [] [])) (.ext (.call 0 6 [] [] []) (.and (.imp (.bvar 6) (.and (.pre (.call 1 7 [.sv (.one (.sl (.var 1) (.var 2) (.var 3) (.var 4)))] [] [.ro 5 [.var 1] true])) (.ext (.call 1 7 [.sv (.one (.sl (.var 1) (.var 2) (.var 3) (.var 4)))] [] [.ro 5 [.var 1] true]) (.and (.imp (.not (.bvar 7)) (.and (.pre (.call 0 8 [] [] [])) (.ext (.call 0 8 [] [] []) (.post [.ro 5 [.var 1] true] (.sv (.one (.bool (.bvar 8)))))))) (.imp (.bvar 7) (.and (.pre (.call 2 8 [.sv (.one (.int .i64 (.wrap .i64 (.rem (.var 0) (.lit 13)))))] [] [])) (.ext (.call 2 8 [.sv (.one (.int .i64 (.wrap .i64 (.rem (.var 0) (.lit 13)))))] [] []) (.and (.pre (.call 3 10 [.sv (.one (.int .i64 (.wrap .i64 (.rem (.var 0) (.lit 13)))))] [] [])) (.ext (.call 3 10 [.sv (.one (.int .i64 (.wrap .i64 (.rem (.var 0) (.lit 13)))))] [] []) (.and (.inv 0 [⟨40, 0, .int .i64 (.lit 0)⟩] [(41, some 8), (42, some 10)]) (.havoc 0 0 12 (.and (.e (.le (.lit 0) (.var 3))) (.and (.imp (.lt (.var 40) (.var 3)) (.and (.e (.le (.lit 0) (.var 1))) (.and (.e (.le (.lit 0) (.var 2))) (.and (.e (.le (.lit 0) (.var 40))) (.and (.e (.his 5 (.var 1) (.add (.var 2) (.mul (.var 40) (.lit 4))) 0 (.int .u8))) (.and (.e (.his 5 (.var 1) (.add (.var 2) (.mul (.var 40) (.lit 4))) 1 (.int .i64))) (.and (.e (.his 5 (.var 1) (.add (.var 2) (.mul (.var 40) (.lit 4))) 2 (.int .u8))) (.and (.e (.his 5 (.var 1) (.add (.var 2) (.mul (.var 40) (.lit 4))) 3 .slice)) (.and (.pre (.call 4 50 [.sv (.one (.hptr (.var 8) (.var 9))), .sv (.one (.hptr (.var 10) (.var 11))), .sv (.agg [.int .u8 (.hI 5 (.var 1) (.add (.var 2) (.mul (.var 40) (.lit 4))) 0), .int .i64 (.hI 5 (.var 1) (.add (.var 2) (.mul (.var 40) (.lit 4))) 1), .int .u8 (.hI 5 (.var 1) (.add (.var 2) (.mul (.var 40) (.lit 4))) 2), .sl (.hP 5 (.var 1) (.add (.var 2) (.mul (.var 40) (.lit 4))) 3 0) (.hP 5 (.var 1) (.add (.var 2) (.mul (.var 40) (.lit 4))) 3 1) (.hP 5 (.var 1) (.add (.var 2) (.mul (.var 40) (.lit 4))) 3 2) (.hP 5 (.var 1) (.add (.var 2) (.mul (.var 40) (.lit 4))) 3 3)])] [.hp 41 [] [.var 8] [], .hp 42 [] [.var 10] []] [.ro 5 [.var 1] true])) (.ext (.call 4 50 [.sv (.one (.hptr (.var 8) (.var 9))), .sv (.one (.hptr (.var 10) (.var 11))), .sv (.agg [.int .u8 (.hI 5 (.var 1) (.add (.var 2) (.mul (.var 40) (.lit 4))) 0), .int .i64 (.hI 5 (.var 1) (.add (.var 2) (.mul (.var 40) (.lit 4))) 1), .int .u8 (.hI 5 (.var 1) (.add (.var 2) (.mul (.var 40) (.lit 4))) 2), .sl (.hP 5 (.var 1) (.add (.var 2) (.mul (.var 40) (.lit 4))) 3 0) (.hP 5 (.var 1) (.add (.var 2) (.mul (.var 40) (.lit 4))) 3 1) (.hP 5 (.var 1) (.add (.var 2) (.mul (.var 40) (.lit 4))) 3 2) (.hP 5 (.var 1) (.add (.var 2) (.mul (.var 40) (.lit 4))) 3 3)])] [.hp 41 [] [.var 8] [], .hp 42 [] [.var 10] []] [.ro 5 [.var 1] true]) (.and (.imp (.bvar 50) (.and (.pre (.call 5 53 [.sv (.one (.hptr (.var 8) (.var 9))), .sv (.one (.hptr (.var 10) (.var 11)))] [.hp 50 [41] [.var 8] [], .hp 51 [42] [.var 10] []] [])) (.ext (.call 5 53 [.sv (.one (.hptr (.var 8) (.var 9))), .sv (.one (.hptr (.var 10) (.var 11)))] [.hp 50 [41] [.var 8] [], .hp 51 [42] [.var 10] []] []) (.and (.imp (.not (.bvar 53)) (.post [.ro 5 [.var 1] true, .hp 53 [50, 41] [.var 8] [], .hp 54 [51, 42] [.var 10] []] (.sv (.one (.bool .ff))))) (.imp (.bvar 53) (.back 0 0 [⟨40, 0, .int .i64 (.wrap .i64 (.add (.var 40) (.lit 1)))⟩] [(41, some 53), (42, some 54)])))))) (.imp (.not (.bvar 50)) (.post [.ro 5 [.var 1] true, .hp 50 [41] [.var 8] [], .hp 51 [42] [.var 10] []] (.sv (.one (.bool .ff)))))))))))))))) (.imp (.not (.lt (.var 40) (.var 3))) (.post [.ro 5 [.var 1] true, .hp 41 [] [.var 8] [], .hp 42 [] [.var 10] []] (.sv (.one (.bool .tt)))))))))))))))))) (.imp (.not (.bvar 6)) (.and (.pre (.call 0 7 [] [] [])) (.ext (.call 0 7 [] [] []) (.post [.ro 5 [.var 1] true] (.sv (.one (.bool (.bvar 7))))))))))
def pΓ : List Sx.Spec := [awakeS, fewS, newS, rnewS, doS, sameS]
theorem pΓ_ok : ∀ t ∈ pΓ, t.OK Try.prog := fun t ht => by
  simp only [pΓ, List.mem_cons, List.mem_nil_iff, or_false] at ht
  rcases ht with rfl | rfl | rfl | rfl | rfl | rfl
  · exact awakeS_ok
  · exact fewS_ok
  · exact newS_ok
  · exact rnewS_ok
  · exact doS_ok
  · exact sameS_ok
def playsW : Walk Try.prog pΓ playsS.fn where
  Λ := fun p => if lp p then some ⟨0, [(7, TI .i64 (.var 40))], [(1, .hp 41 [] [.var 8] []), (2, .hp 42 [] [.var 10] [])], 50⟩ else none
  args := [TI .u8 (.var 0), .sv (.one (.sl (.var 1) (.var 2) (.var 3) (.var 4)))]
  mem := [.ro 5 [.var 1] true]
  nv := 6
  nd := playsNd
  ok := by kernel_rfl
theorem pg0 : pΓ[0]? = some awakeS := rfl
theorem pg1 : pΓ[1]? = some fewS := rfl
theorem pg2 : pΓ[2]? = some newS := rfl
theorem pg3 : pΓ[3]? = some rnewS := rfl
theorem pg4 : pΓ[4]? = some doS := rfl
theorem pg5 : pΓ[5]? = some sameS := rfl
theorem pr0 : awakeS.res = [.one .bool] := rfl
theorem pr1 : fewS.res = [.one .bool] := rfl
theorem pr2 : newS.res = [.one .ptr] := rfl
theorem pr3 : rnewS.res = [.one .ptr] := rfl
theorem pr4 : doS.res = [.one .bool] := rfl
theorem pr5 : sameS.res = [.one .bool] := rfl
theorem pc2 : (cpRoots 0 [Cp.one Ck.ptr] ≠ []) = True := by simp [cpRoots, Cp.roots, Ck.root]
def dP (q : Env) : Value := .pointer (slP (q.i 8) (q.i 9))
def rP (q : Env) : Value := .pointer (slP (q.i 10) (q.i 11))
def playsInv (n : Nat) (_ : Nat) (q : Env) : Prop := ∃ (i : Nat) (D : DM) (M : RM), q.i 40 = i ∧ i ≤ n ∧ DiskAt (q.h 41) (dP q) D ∧ RefAt (q.h 42) (rP q) M ∧ Twin D M
theorem playsS_ok : playsS.OK Try.prog := by
  refine Spec.of_fn (Γ := pΓ) pΓ_ok ?_
  rintro xs Hs Rs hl1 hl2 ⟨nn, v, R, rows, rfl, rfl, hnn, hRd, hrow⟩
  have e0 : Hs = [] := List.length_eq_zero_iff.1 hl1
  subst e0
  obtain ⟨x, y, c, rfl, hy, hrows⟩ := id hRd
  refine ⟨playsW, envI [nn, x, y, rows.length, c] false [Hl.none, Hl.none, Hl.none, Hl.none, Hl.none, R], playsInv rows.length, fun _ q => ((rows.length : Int) - q.i 40).toNat, ?_, ⟨?_, ?_, ?_, ?_⟩, (fun _ h => nomatch h), ?_⟩
  · show [Value.int .u8 nn, Value.slice (slP x y) ((rows.length : Int)).toNat ((c : Int)).toNat] = _
    rw [Int.toNat_natCast, Int.toNat_natCast]
  · intro r hr ho; simp [playsW] at hr; subst hr; cases ho
  · intro r hr ho; simp [playsW] at hr; subst hr; exact ⟨R, by simp, Hl.le_refl _⟩
  · simp [playsW]
  · intro r hr; simp [playsW] at hr; subst hr; trivial
  · show Nd.holds _ _ _ playsNd
    generalize hρ : envI [nn, x, y, rows.length, c] false [Hl.none, Hl.none, Hl.none, Hl.none, Hl.none, R] = ρ
    have v0 : ρ.i 0 = nn := by rw [← hρ]; rfl
    have v1 : ρ.i 1 = x := by rw [← hρ]; rfl
    have v2 : ρ.i 2 = y := by rw [← hρ]; rfl
    have v3 : ρ.i 3 = rows.length := by rw [← hρ]; rfl
    have v4 : ρ.i 4 = c := by rw [← hρ]; rfl
    have w5 : ρ.h 5 = R := by rw [← hρ]; rfl
    clear hρ
    have yes : ∀ (q : Env) (mem : Mem) (e : E), bev q e = true → postOf playsS [.int .u8 nn, .slice (slP x y) rows.length c] [] [R] q mem (.sv (.one (.bool e))) := fun q mem e he _ =>
      ⟨[], [], rfl, rfl, ⟨⟨fun _ => 0, fun _ => true, fun _ => .empty, fun _ => .tuple #[], fun _ => Hl.none⟩, by show Value.bool (bev q e) = _; rw [he]; rfl, trivial, trivial⟩, by show Value.bool (bev q e) = _; rw [he]⟩
    have awk : ∀ (q' : Env) (n : Nat) {F : Hl}, awakeS.post [] [] [] (Value.bool (bev q' (E.bvar n))) [] F → bev q' (E.bvar n) = true := by
      intro q' n F h
      have h : Value.bool (bev q' (E.bvar n)) = .bool true := h
      simpa using h
    unfold playsNd
    simp only [Nd.holds, X.pre, X.rel, X.n, Src.ok, Src.len, Src.vals, true_and, and_true, if_true, Nat.mul_one, Nat.add_zero, Nat.reduceAdd, List.length_cons, List.length_nil, bT_tt, bT_ff, bT_bvar, bT_not, bT_and, bT_or, bT_ite, bT_lt, bT_le, bT_eq, bT_beq, bT_seq, bT_hB, bT_his, bT_hby, bT_hism, bT_hks, iev_lit, iev_var, iev_add, iev_sub, iev_mul, iev_wrap, iev_ite, iev_hI, iev_hP, iev_hmlen, sev_ite, sev_slit, sev_sof, sev_svar, TV.ev, SV.ev, CV.ev, List.map_cons, List.map_nil, Res.hl, cpTV, Cp.sv, Ck.cv, cpSVs, Cp.len, Ck.len, newHs_zero, newHs_one, roots_ne, pg0, pg1, pg2, pg3, pg4, pg5, pr0, pr1, pr2, pr3, pr4, pr5, pc2, iev_rem]
    refine ⟨rfl, fun q1 g1 ⟨F1, hp1, _, _⟩ => ?_⟩
    have hb1 : q1.b 6 = true := awk q1 6 hp1
    have P1 : Agree 6 ρ q1 := g1
    have lq : ∀ q', Agree 6 ρ q' → Value.slice (slP (q'.i 1) (q'.i 2)) (q'.i 3).toNat (q'.i 4).toNat = .slice (slP x y) rows.length c := by
      intro q' a
      rw [a.i 1 (by omega), a.i 2 (by omega), a.i 3 (by omega), a.i 4 (by omega), v1, v2, v3, v4, Int.toNat_natCast, Int.toNat_natCast]
    rw [hb1, lq q1 P1, P1.h 5 (by omega), w5]
    refine ⟨fun _ => ⟨⟨_, R, rows, rfl, rfl, hRd⟩, fun q2 g2 ⟨F2, ⟨u2, R2, rows2, b2, hx2, hR2, hRd2, hv2, hb2⟩, _, _⟩ => ?_⟩, fun h => absurd rfl h⟩
    have hx2 : Value.slice (slP x y) rows.length c = u2 := by simpa using hx2
    have hR2 : R = R2 := by simpa using hR2
    subst hx2 hR2
    have e := hRd.uniq hRd2
    subst e
    have hv2 : q2.b 7 = b2 := by
      have h1 : Value.bool (q2.b 7) = .bool b2 := hv2
      simpa using h1
    rw [hv2]
    have P2 : Agree 6 ρ q2 := P1.trans (g2.mono (by omega))
    refine ⟨fun _ => ⟨rfl, fun q3 g3 ⟨F3, hp3, _, _⟩ => yes q3 _ _ (awk q3 8 hp3)⟩, fun hb => ?_⟩
    have h60 := hb2 hb
    have en : IntKind.i64.wrap ((q2.i 0).tmod 13) = nn.tmod 13 := by
      rw [P2.i 0 (by omega), v0]
      have h1 : 0 ≤ nn.tmod 13 := Int.tmod_nonneg _ hnn.1
      have h2 : nn.tmod 13 < 13 := Int.tmod_lt_of_pos _ (by decide)
      exact wrap_i64 (by omega) (by omega)
    rw [en]
    generalize hN : nn.tmod 13 = N
    refine ⟨⟨N, rfl⟩, fun q3 g3 ⟨F3, ⟨n3, hx3, hD3⟩, hF3, ⟨⟨n8, n9⟩, _⟩⟩ => ?_⟩
    have hx3 : N = n3 := by simpa using hx3
    subst hx3
    rw [← hF3 trivial] at hD3
    have P3 : Agree 6 ρ q3 := P2.trans (g3.mono (by omega))
    have en3 : IntKind.i64.wrap ((q3.i 0).tmod 13) = N := by
      rw [g3.i 0 (by omega), en, hN]
    rw [en3]
    refine ⟨⟨N, rfl⟩, fun q4 g4 ⟨F4, ⟨n4, hx4, hM4⟩, hF4, ⟨⟨n10, n11⟩, _⟩⟩ => ?_⟩
    have hx4 : N = n4 := by simpa using hx4
    subst hx4
    rw [← hF4 trivial] at hM4
    have P4 : Agree 6 ρ q4 := P3.trans (g4.mono (by omega))
    refine ⟨⟨0, newD N, rnewM N, rfl, Nat.zero_le _, ?_, hM4, Twin.new N⟩, fun q g ⟨i, D, M, e40, hi, hD, hM, ht⟩ => ?_⟩
    · show DiskAt (q4.h 8) (.pointer (slP (q4.i 8) (q4.i 9))) _
      rw [g4.h 8 (by omega), g4.i 8 (by omega), g4.i 9 (by omega)]; exact hD3
    have P : Agree 6 ρ q := P4.trans (g.mono (by omega))
    rw [P.i 1 (by omega), v1, P.i 2 (by omega), v2, P.i 3 (by omega), v3, P.h 5 (by omega), w5, e40]
    refine ⟨by omega, fun hlt => ?_, fun _ => yes q _ _ rfl⟩
    obtain ⟨row, hr⟩ : ∃ r, rows[i]? = some r := ⟨_, List.getElem?_eq_getElem (by omega)⟩
    obtain ⟨bs, k, ii, xx, u, rfl, hii, hB, hby⟩ := hrow row (List.mem_of_getElem? hr)
    rcases hrows with h | ⟨hx0, hrr⟩
    · rw [h] at hr; simp at hr
    obtain ⟨hok, hc⟩ := hrr i _ hr
    have hc' : ∀ j z, [Value.int .u8 k, .int .i64 ii, .int .u8 xx, u][j]? = some z → R.cell x.toNat ((y + (i : Int) * 4).toNat + j) = some z := fun j z hz => by
      rw [← hc j z hz]
      congr 1
      show (y + (i : Int) * 4).toNat + j = y.toNat + i * 4 + j
      omega
    have er : List.map (CV.ev q) (romCells 5 (.var 1) (.add (.var 2) (.mul (.var 40) (.lit 4))) 0 opK7) = [Value.int .u8 k, .int .i64 ii, .int .u8 xx, u] := by
      refine romCells_row _ _ 0 hok fun j z hz => ?_
      simp only [iev_var, iev_add, iev_mul, iev_lit]
      rw [P.h 5 (by omega), w5, P.i 1 (by omega), v1, P.i 2 (by omega), v2, e40, Nat.zero_add]
      exact hc' j z hz
    have e3 : some (Value.slice (slP (valP ((q.h 5).cell (q.i 1).toNat ((q.i 2 + q.i 40 * 4).toNat + 3)) 0) (valP ((q.h 5).cell (q.i 1).toNat ((q.i 2 + q.i 40 * 4).toNat + 3)) 1)) (valP ((q.h 5).cell (q.i 1).toNat ((q.i 2 + q.i 40 * 4).toNat + 3)) 2).toNat (valP ((q.h 5).cell (q.i 1).toNat ((q.i 2 + q.i 40 * 4).toNat + 3)) 3).toNat) = some u := congrArg (fun l => l[3]?) er
    rw [P.h 5 (by omega), w5, P.i 1 (by omega), v1, P.i 2 (by omega), v2, e40, hc' 3 u rfl] at e3
    have e3 := Option.some.inj e3
    have k0 := hc' 0 _ rfl
    rw [Nat.add_zero] at k0
    obtain ⟨_, _, _, hsl, _⟩ := hok
    rw [k0, hc' 1 _ rfl, hc' 2 _ rfl, hc' 3 _ rfl, e3]
    refine ⟨hx0, hy, by omega, rfl, rfl, rfl, hsl, ⟨_, _, k, ii, xx, u, bs, _, _, R, D, M, rfl, rfl, rfl, hD, hM, ht, hB, hby, hii⟩, fun q5 g5 ⟨F5, ⟨dp, rp, o, HD', HR', D', M', hx5, hK5, hD5, hM5, ht5, _, hv5⟩, _, _⟩ => ?_⟩
    simp only [List.cons.injEq] at hx5
    obtain ⟨hxa, hxb, _⟩ := hx5
    subst hxa hxb
    have hK5 : [q5.h 50, q5.h 51] = [HD', HR'] := hK5
    have hK5 : q5.h 50 = HD' ∧ q5.h 51 = HR' := by simpa using hK5
    obtain ⟨hKa, hKb⟩ := hK5
    rw [← hKa] at hD5
    rw [← hKb] at hM5
    have hv5 : q5.b 50 = true := by
      have h1 : Value.bool (q5.b 50) = .bool true := hv5
      simpa using h1
    rw [hv5, g5.i 8 (by omega), g5.i 9 (by omega), g5.i 10 (by omega), g5.i 11 (by omega)]
    refine ⟨fun _ => ⟨⟨_, _, _, _, D', M', rfl, rfl, hD5, hM5, ht5⟩, fun q6 g6 ⟨F6, ⟨dp, rp, HD2, HR2, D2, M2, hx6, hK6, hD6, hM6, ht6, hv6⟩, _, _⟩ => ?_⟩, fun h => absurd rfl h⟩
    have hx6 : Value.pointer (slP (q.i 8) (q.i 9)) = dp ∧ Value.pointer (slP (q.i 10) (q.i 11)) = rp := by simpa using hx6
    obtain ⟨hxa, hxb⟩ := hx6
    subst hxa hxb
    have hK6 : [q6.h 53, q6.h 54] = [HD2, HR2] := hK6
    have hK6 : q6.h 53 = HD2 ∧ q6.h 54 = HR2 := by simpa using hK6
    obtain ⟨hKc, hKd⟩ := hK6
    rw [← hKc] at hD6
    rw [← hKd] at hM6
    have hv6 : q6.b 53 = true := by
      have h1 : Value.bool (q6.b 53) = .bool true := hv6
      simpa using h1
    rw [hv6]
    have A6 : Agree 50 q q6 := g5.trans (g6.mono (by omega))
    have m40 : IntKind.i64.wrap (q6.i 40 + 1) = i + 1 := by rw [A6.i 40 (by omega), e40, wrap_i64 (by omega) (by omega)]
    refine ⟨fun h => absurd rfl h, fun _ => ⟨⟨i + 1, D2, M2, ?_, by omega, ?_, ?_, ht6⟩, ?_⟩⟩
    · show IntKind.i64.wrap (q6.i 40 + 1) = _
      rw [m40]; omega
    · show DiskAt (q6.h 53) (.pointer (slP (q6.i 8) (q6.i 9))) D2
      rw [A6.i 8 (by omega), A6.i 9 (by omega)]; exact hD6
    · show RefAt (q6.h 54) (.pointer (slP (q6.i 10) (q6.i 11))) M2
      rw [A6.i 10 (by omega), A6.i 11 (by omega)]; exact hM6
    · show ((rows.length : Int) - IntKind.i64.wrap (q6.i 40 + 1)).toNat < _
      rw [m40]; omega
end Go.Proofs.Ytdohcabnaihaoaa
