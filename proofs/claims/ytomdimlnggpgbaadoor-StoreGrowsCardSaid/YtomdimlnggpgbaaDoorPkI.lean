/- Layer 5: End, and the reference's Num, as contracts. Condition: at most a million bytes. -/
import Derived.Test.YtomdimlnggpgbaaDoorPkH
set_option linter.unusedSimpArgs false
set_option linter.unusedVariables false
set_option linter.constructorNameAsVariable false
namespace Go.Proofs.YtomdimlnggpgbaaDoor
open Go Go.Sx Go.Pk

/-! ### End -/
def endR (bs : List Int) (lg : Bool) : List Int × Int := if lg = true ∨ 16384 < bs.length then ([], 3) else (bs, 0)
def oEndS : Sx.Spec where
  fn := 63
  own := []
  rd := [0]
  res := [.one .sl, .one (.int .i64)]
  pre := fun xs Hs Rs => ∃ p R bs lg, xs = [p] ∧ Rs = [R] ∧ OutAt R p bs lg ∧ bs.length ≤ 1000000
  post := fun xs Hs Rs v Hs' F => ∃ p R bs lg u, xs = [p] ∧ Rs = [R] ∧ OutAt R p bs lg ∧ v = .tuple #[u, .int .i64 (endR bs lg).2] ∧ OwB F 5 u (endR bs lg).1
def oEndNd : Nd := .and (.e (.le (.lit 0) (.var 0))) (.and (.e (.his 2 (.var 0) (.lit 1) 0 .bool)) (.and (.imp (.not (.hB 2 (.var 0) (.lit 1) 0)) (.and (.e (.his 2 (.var 0) (.lit 0) 0 .slice)) (.and (.e (.le (.lit 0) (.hP 2 (.var 0) (.lit 0) 0 2))) (.and (.imp (.lt (.lit 16384) (.hP 2 (.var 0) (.lit 0) 0 2)) (.post [.ro 1 [.hP 2 (.var 0) (.lit 0) 0 0] false, .ro 2 [.var 0] false] (.tup [.one (.sl (.lit (-1)) (.lit 0) (.lit 0) (.lit 0)), .one (.int .i64 (.lit 3))]))) (.imp (.not (.lt (.lit 16384) (.hP 2 (.var 0) (.lit 0) 0 2))) (.and (.pre (.call 2 3 [.sv (.one (.sl (.hP 2 (.var 0) (.lit 0) 0 0) (.hP 2 (.var 0) (.lit 0) 0 1) (.hP 2 (.var 0) (.lit 0) 0 2) (.hP 2 (.var 0) (.lit 0) 0 3)))] [] [.ro 1 [.hP 2 (.var 0) (.lit 0) 0 0] false])) (.ext (.call 2 3 [.sv (.one (.sl (.hP 2 (.var 0) (.lit 0) 0 0) (.hP 2 (.var 0) (.lit 0) 0 1) (.hP 2 (.var 0) (.lit 0) 0 2) (.hP 2 (.var 0) (.lit 0) 0 3)))] [] [.ro 1 [.hP 2 (.var 0) (.lit 0) 0 0] false]) (.post [.ro 1 [.hP 2 (.var 0) (.lit 0) 0 0] false, .ro 2 [.var 0] false, .hp 3 [] [.var 3] []] (.tup [.one (.sl (.var 3) (.var 4) (.var 5) (.var 6)), .one (.int .i64 (.lit 0))]))))))))) (.imp (.hB 2 (.var 0) (.lit 1) 0) (.post [.ro 1 [.hP 2 (.var 0) (.lit 0) 0 0] false, .ro 2 [.var 0] false] (.tup [.one (.sl (.lit (-1)) (.lit 0) (.lit 0) (.lit 0)), .one (.int .i64 (.lit 3))])))))
def oEndW : Walk Tryd.prog oΓ oEndS.fn where
  Λ := noLoops
  args := [TP (.var 0) (.lit 0)]
  mem := [.ro 1 [.hP 2 (.var 0) (.lit 0) 0 0] false, .ro 2 [.var 0] false]
  nv := 3
  nd := oEndNd
  ok := by kernel_rfl
theorem or2 : cloneBS.res = [.one .sl] := rfl
theorem sl3 {x y : Int} (hx : -1 ≤ x) (n c : Nat) : valP (some (.slice (slP x y) n c)) 3 = c := by
  rcases Int.lt_or_le x 0 with h | h
  · obtain rfl : x = -1 := by omega
    rfl
  · rw [slP_pos h]; rfl
theorem sl1z {x : Int} (hx : -1 ≤ x) (n c : Nat) : valP (some (.slice (slP x 0) n c)) 1 = 0 := by
  rcases Int.lt_or_le x 0 with h | h
  · obtain rfl : x = -1 := by omega
    rfl
  · rw [slP_pos h]; rfl
theorem oEndS_ok : oEndS.OK Tryd.prog := by
  refine Spec.of_fn (Γ := oΓ) oΓ_ok ?_
  rintro xs Hs Rs hl1 hl2 ⟨p, R, bs, lg, rfl, rfl, h, hlen⟩
  have e0 : Hs = [] := List.length_eq_zero_iff.1 hl1
  subst e0
  obtain ⟨a, x, c, rfl, hx, hc, hc0, hc1, hR⟩ := h.whole
  unfold svb at hc0 hR
  rw [Int.toNat_natCast] at hc0 hR
  refine ⟨oEndW, envI [(a : Int)] false [Hl.none, R, R], fun _ _ => True, fun _ _ => 0, ?_, ⟨?_, ?_, ?_, ?_⟩, (fun _ h => nomatch h), ?_⟩
  · show [Value.pointer (slP (a : Int) 0)] = _
    rw [ptr0]
  · intro r hr ho; simp [oEndW] at hr; rcases hr with rfl | rfl <;> cases ho
  · intro r hr ho; simp [oEndW] at hr
    rcases hr with rfl | rfl <;> exact ⟨R, by simp, Hl.le_refl _⟩
  · simp [oEndW, Res.own]
  · intro r hr; simp [oEndW] at hr; rcases hr with rfl | rfl <;> trivial
  · show Nd.holds _ _ _ oEndNd
    generalize hρ : envI [(a : Int)] false [Hl.none, R, R] = ρ
    have v0 : ρ.i 0 = a := by rw [← hρ]; rfl
    have w1 : ρ.h 1 = R := by rw [← hρ]; rfl
    have w2 : ρ.h 2 = R := by rw [← hρ]; rfl
    clear hρ
    have fail : ∀ (mem : Mem), lg = true ∨ 16384 < bs.length → postOf oEndS [.pointer (some ⟨a, 0, none⟩)] [] [R] ρ mem (.tup [.one (.sl (.lit (-1)) (.lit 0) (.lit 0) (.lit 0)), .one (.int .i64 (.lit 3))]) := by
      intro mem hf _
      have hs : endR bs lg = ([], 3) := by unfold endR; rw [if_pos hf]
      refine ⟨[], [], rfl, rfl, ⟨⟨fun k => if k = 0 then -1 else if k = 4 then 3 else 0, fun _ => false, fun _ => .empty, fun _ => .tuple #[], fun _ => Hl.none⟩, rfl, ⟨Int.le_refl _, Int.le_refl _, Int.le_refl _, Int.le_refl _⟩, trivial, trivial⟩, _, R, bs, lg, .slice none 0 0, rfl, rfl, h, ?_, ?_⟩
      · rw [hs]; rfl
      · rw [hs]; exact ownB_nil _ _
    have tn0 : Int.toNat 0 = 0 := rfl
    have tn1 : Int.toNat 1 = 1 := rfl
    unfold oEndNd
    simp only [Nd.holds, X.pre, X.rel, X.n, Src.ok, Src.len, Src.vals, true_and, and_true, if_true, Nat.mul_one, Nat.add_zero, Nat.reduceAdd, List.length_cons, List.length_nil, bT_tt, bT_ff, bT_bvar, bT_not, bT_and, bT_or, bT_ite, bT_lt, bT_le, bT_eq, bT_beq, bT_seq, bT_hB, bT_his, bT_hby, bT_hism, bT_hks, iev_lit, iev_var, iev_add, iev_sub, iev_mul, iev_wrap, iev_ite, iev_hI, iev_hP, iev_hmlen, sev_ite, sev_slit, sev_sof, sev_svar, TV.ev, SV.ev, CV.ev, List.map_cons, List.map_nil, Res.hl, cpTV, Cp.sv, Ck.cv, cpSVs, Cp.len, Ck.len, newHs_zero, newHs_one, roots_ne, og2, or2, ic1, tn0, tn1]
    rw [v0, w2, w1, Int.toNat_natCast, hc0, hc1, sl2 hx, sl0 hx, sl1z hx, sl3 hx]
    refine ⟨by omega, rfl, fun hb => ⟨rfl, by omega, fun hlt => fail _ (Or.inr (by omega)), fun hge => ?_⟩, fun hb => fail _ (Or.inl hb)⟩
    have hb : lg = false := Bool.eq_false_iff.2 hb
    rw [Int.toNat_natCast, Int.toNat_natCast]
    have hW := hR.w
    refine ⟨⟨_, bs, R, rfl, rfl, hW, hlen⟩, fun q g ⟨F1, hp, hF, hnm⟩ _ => ?_⟩
    have hO := clone_post hW hp
    rw [← hF trivial] at hO
    have hs : endR bs lg = (bs, 0) := by
      unfold endR
      have : ¬ (lg = true ∨ 16384 < bs.length) := by
        rintro (e | e)
        · rw [hb] at e; cases e
        · omega
      rw [if_neg this]
    refine ⟨[], [2], rfl, rfl, ⟨⟨fun k => if k = 4 then 0 else q.i (3 + k), fun _ => false, fun _ => .empty, fun _ => .tuple #[], fun _ => Hl.none⟩, rfl, hnm.1, trivial, trivial⟩, _, R, bs, lg, _, rfl, rfl, h, by rw [hs]; rfl, ?_⟩
    rw [hs]
    show OwB (hls [q.h 3]) _ _ _
    rw [hls_one]; exact hO
/-! ### The reference's Num -/
def rnumS : Sx.Spec where
  fn := 57
  own := []
  rd := []
  res := [.one .sl]
  pre := fun xs Hs Rs => ∃ z : Int, xs = [.int .u64 z] ∧ 0 ≤ z ∧ z < 18446744073709551616
  post := fun xs Hs Rs v Hs' F => ∃ z : Int, xs = [.int .u64 z] ∧ OwB F 5 v (numB z.toNat)
def rnumNd : Nd := .and (.inv 0 [⟨24, 0, .int .i64 (.var 0)⟩, ⟨20, 0, .int .i64 (.lit (-1))⟩, ⟨22, 0, .int .i64 (.lit 0)⟩, ⟨23, 0, .int .i64 (.lit 0)⟩] [(25, none)]) (.havoc 0 0 1 (.and (.imp (.lt (.lit 0) (.wrap .u64 (.quo (.var 24) (.lit 128)))) (.ext (.alloc 30) (.and (.pre (.app 31 5 1 1 (.sl (.var 20) (.lit 0) (.var 22) (.var 23)) (.var 22) (.hp 25 [] [.var 20] []) (.cvs [.int .u8 (.wrap .u8 (.wrap .u64 (.add (.rem (.var 24) (.lit 128)) (.lit 128))))] 1))) (.ext (.app 31 5 1 1 (.sl (.var 20) (.lit 0) (.var 22) (.var 23)) (.var 22) (.hp 25 [] [.var 20] []) (.cvs [.int .u8 (.wrap .u8 (.wrap .u64 (.add (.rem (.var 24) (.lit 128)) (.lit 128))))] 1)) (.back 0 0 [⟨24, 0, .int .i64 (.wrap .u64 (.quo (.var 24) (.lit 128)))⟩, ⟨20, 0, .int .i64 (.var 31)⟩, ⟨22, 0, .int .i64 (.add (.var 22) (.lit 1))⟩, ⟨23, 0, .int .i64 (.var 32)⟩] [(25, some 31)]))))) (.imp (.not (.lt (.lit 0) (.wrap .u64 (.quo (.var 24) (.lit 128))))) (.ext (.alloc 30) (.and (.pre (.app 31 5 1 1 (.sl (.var 20) (.lit 0) (.var 22) (.var 23)) (.var 22) (.hp 25 [] [.var 20] []) (.cvs [.int .u8 (.wrap .u8 (.var 24))] 1))) (.ext (.app 31 5 1 1 (.sl (.var 20) (.lit 0) (.var 22) (.var 23)) (.var 22) (.hp 25 [] [.var 20] []) (.cvs [.int .u8 (.wrap .u8 (.var 24))] 1)) (.post [.hp 31 [25] [.var 31, .var 20] [], .dead] (.sv (.one (.sl (.var 31) (.lit 0) (.add (.var 22) (.lit 1)) (.var 32)))))))))))
def rnumW : Walk Tryd.prog [] rnumS.fn where
  Λ := fun p => if lp0 p then some ⟨0, [(3, .sv (.one (.sl (.var 20) (.lit 0) (.var 22) (.var 23)))), (0, TI .u64 (.var 24))], [(0, .hp 25 [] [.var 20] [])], 30⟩ else none
  args := [TI .u64 (.var 0)]
  mem := []
  nv := 1
  nd := rnumNd
  ok := by kernel_rfl
theorem quo128 (y : Nat) (h : y < 18446744073709551616) : IntKind.u64.wrap ((y : Int).tdiv 128) = ((y / 128 : Nat) : Int) := by
  rw [Int.tdiv_eq_ediv_of_nonneg (by omega), wu64 (by omega) (by omega)]; omega
theorem rem128 (y : Nat) : IntKind.u8.wrap (IntKind.u64.wrap ((y : Int).tmod 128 + 128)) = ((y % 128 + 128 : Nat) : Int) := by
  rw [Int.tmod_eq_emod_of_nonneg (by omega), wu64 (by omega) (by omega), wu8]; omega
def rnumInv (all : List Int) (k : Nat) (q : Env) : Prop := oNumInv all 10 k q ∧ q.i 24 < 18446744073709551616
theorem rnumS_ok : rnumS.OK Tryd.prog := by
  refine Spec.of_fn (Γ := []) (fun _ h => by cases h) ?_
  rintro xs Hs Rs hl1 hl2 ⟨z, rfl, hz0, hz1⟩
  have e0 : Hs = [] := List.length_eq_zero_iff.1 hl1
  have e1 : Rs = [] := List.length_eq_zero_iff.1 hl2
  subst e0 e1
  have hnb := num_bound (z := z.toNat) (by omega)
  refine ⟨rnumW, envI [z] false [], rnumInv (numB z.toNat), fun _ q => (q.i 24).toNat, rfl, ⟨fun r hr => (by cases hr), fun r hr => (by cases hr), List.Pairwise.nil, fun r hr => (by cases hr)⟩, (fun _ h => nomatch h), ?_⟩
  show Nd.holds _ _ _ rnumNd
  generalize hρ : envI [z] false [] = ρ
  have v0 : ρ.i 0 = z := by rw [← hρ]; rfl
  clear hρ
  unfold rnumNd
  simp only [Nd.holds, X.pre, X.rel, X.n, Src.ok, Src.len, Src.vals, true_and, and_true, if_true, Nat.mul_one, Nat.add_zero, Nat.reduceAdd, List.length_cons, List.length_nil, bT_tt, bT_ff, bT_bvar, bT_not, bT_and, bT_or, bT_ite, bT_lt, bT_le, bT_eq, bT_beq, bT_seq, bT_hB, bT_his, bT_hby, bT_hism, bT_hks, iev_lit, iev_var, iev_add, iev_sub, iev_mul, iev_wrap, iev_ite, iev_hI, iev_hP, iev_hmlen, sev_ite, sev_slit, sev_sof, sev_svar, TV.ev, SV.ev, CV.ev, List.map_cons, List.map_nil, Res.hl, iev_quo, iev_rem]
  refine ⟨⟨⟨z.toNat, [], ?_, rfl, Nat.zero_le _, rfl, Int.le_refl _, Int.le_refl _, ⟨rfl, Or.inl ⟨rfl, rfl⟩⟩⟩, ?_⟩, fun q g ⟨⟨y, done, e24, hall, hdl, e22, r20, r23, hO⟩, hlt24⟩ => ?_⟩
  · show ρ.i 0 = _
    rw [v0]; omega
  · show ρ.i 0 < _
    rw [v0]; exact hz1
  have hal := congrArg List.length hall
  rw [List.length_append] at hal
  have hy64 : y < 18446744073709551616 := by omega
  rw [e24, quo128 y hy64]
  refine ⟨fun hge q1 g1 _ => ?_, fun hlt q1 g1 _ => ?_⟩
  · rw [g1.h 25 (by omega), g1.i 20 (by omega), g1.i 22 (by omega), g1.i 23 (by omega), g1.i 24 (by omega), e24, rem128]
    refine ⟨⟨⟨_, owB_pre hO e22⟩, by omega, by unfold maxLen; omega, by omega⟩, fun q2 g2 ⟨a1, a2, a3, _⟩ => ?_⟩
    have hyh : numB y = ((y % 128 + 128 : Nat) : Int) :: numB (y / 128) := numB_high (by omega)
    have hO2 := owB_app (bs2 := [((y % 128 + 128 : Nat) : Int)]) (m := 1) hO e22 rfl a3
    have e24' : IntKind.u64.wrap ((q2.i 24).tdiv 128) = ((y / 128 : Nat) : Int) := by
      rw [g2.i 24 (by omega), g1.i 24 (by omega), e24]; exact quo128 y hy64
    refine ⟨⟨⟨y / 128, done ++ [((y % 128 + 128 : Nat) : Int)], e24', ?_, ?_, ?_, a1, a2, ?_⟩, ?_⟩, ?_⟩
    · rw [List.append_assoc, ← hall, hyh]; rfl
    · rw [List.length_append, List.length_singleton]
      rw [hyh, List.length_cons] at hal
      omega
    · show q2.i 22 + 1 = _
      rw [g2.i 22 (by omega), g1.i 22 (by omega), e22, List.length_append, List.length_singleton]; omega
    · show OwB (q2.h 31) _ (.slice (slP (q2.i 31) 0) (q2.i 22 + 1).toNat (q2.i 32).toNat) _
      rw [g2.i 22 (by omega), g1.i 22 (by omega), e22]
      have := hO2
      unfold svb at this
      rw [List.length_append, List.length_singleton] at this
      exact this
    · show IntKind.u64.wrap ((q2.i 24).tdiv 128) < _
      rw [e24']; omega
    · show (IntKind.u64.wrap ((q2.i 24).tdiv 128)).toNat < _
      rw [e24']; omega
  · rw [g1.h 25 (by omega), g1.i 20 (by omega), g1.i 22 (by omega), g1.i 23 (by omega)]
    refine ⟨⟨⟨_, owB_pre hO e22⟩, by omega, by unfold maxLen; omega, by omega⟩, fun q2 g2 ⟨a1, a2, a3, _⟩ hd => ?_⟩
    have hyl : numB y = [(y : Int)] := numB_low (by omega)
    have eb : IntKind.u8.wrap (q1.i 24) = (y : Int) := by
      rw [g1.i 24 (by omega), e24, wu8]; omega
    rw [eb] at a3
    have hO2 := owB_app (bs2 := [(y : Int)]) (m := 1) hO e22 rfl a3
    rw [← hyl, hall] at hO2
    have e22' : q2.i 22 + 1 = ((numB z.toNat).length : Int) := by
      rw [g2.i 22 (by omega), g1.i 22 (by omega), e22]
      rw [hyl, List.length_singleton] at hal
      omega
    refine ⟨[], [0], rfl, rfl, ⟨⟨fun k => [q2.i 31, 0, q2.i 22 + 1, q2.i 32].getD k 0, fun _ => false, fun _ => .empty, fun _ => .tuple #[], fun _ => Hl.none⟩, rfl, ⟨a1, Int.le_refl _, by show 0 ≤ q2.i 22 + 1; omega, a2⟩, trivial⟩, z, rfl, ?_⟩
    show OwB (hls [q2.h 31]) _ (.slice (slP (q2.i 31) 0) (q2.i 22 + 1).toNat (q2.i 32).toNat) _
    rw [hls_one, e22']
    exact hO2
end Go.Proofs.YtomdimlnggpgbaaDoor
