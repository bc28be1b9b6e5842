/- Layer 5: End, and the reference's Num, as contracts. Condition: at most a million bytes. -/
import Derived.Test.YtomdimlnggpgbaaDoorRows
import Derived.MapKept
import Derived.Test.YtomdimlnggpgbaaDoorQc
set_option linter.unusedSimpArgs false
set_option linter.unusedVariables false
set_option linter.constructorNameAsVariable false
namespace Go.Proofs.YtomdimlnggpgbaaDoor
open Go Go.Sx Go.Pk
def endR (bs : List Int) (lg : Bool) : List Int × Int := if lg = true ∨ 16384 < bs.length then ([], 3) else (bs, 0)
def oEndS : Sx.Spec where
  fn := 63
  own := []
  rd := [0]
  res := [.one .sl, .one (.int .i64)]
  pre := fun xs Hs Rs => ∃ p R bs lg, xs = [p] ∧ Rs = [R] ∧ OutAt R p bs lg ∧ bs.length ≤ 1000000
  post := fun xs Hs Rs v Hs' F => ∃ p R bs lg u, xs = [p] ∧ Rs = [R] ∧ OutAt R p bs lg ∧ v = .tuple #[u, .int .i64 (endR bs lg).2] ∧ OwB F 5 u (endR bs lg).1
def oEndNd : Nd := .and (.e (.le (.lit 0) (.var 0))) (.and (.e (.his 2 (.var 0) (.lit 1) 0 .bool)) (.and (.imp (.not (.hB 2 (.var 0) (.lit 1) 0)) (.and (.e (.his 2 (.var 0) (.lit 0) 0 .slice)) (.and (.e (.le (.lit 0) (.hP 2 (.var 0) (.lit 0) 0 2))) (.and (.imp (.lt (.lit 16384) (.hP 2 (.var 0) (.lit 0) 0 2)) (.post [.ro 1 [.hP 2 (.var 0) (.lit 0) 0 0] false, .ro 2 [.var 0] false] (.tup [.one (.sl (.lit (-1)) (.lit 0) (.lit 0) (.lit 0)), .one (.int .i64 (.lit 3))]))) (.imp (.not (.lt (.lit 16384) (.hP 2 (.var 0) (.lit 0) 0 2))) (.and (.pre (.call 2 3 [.sv (.one (.sl (.hP 2 (.var 0) (.lit 0) 0 0) (.hP 2 (.var 0) (.lit 0) 0 1) (.hP 2 (.var 0) (.lit 0) 0 2) (.hP 2 (.var 0) (.lit 0) 0 3)))] [] [.ro 1 [.hP 2 (.var 0) (.lit 0) 0 0] false])) (.ext (.call 2 3 [.sv (.one (.sl (.hP 2 (.var 0) (.lit 0) 0 0) (.hP 2 (.var 0) (.lit 0) 0 1) (.hP 2 (.var 0) (.lit 0) 0 2) (.hP 2 (.var 0) (.lit 0) 0 3)))] [] [.ro 1 [.hP 2 (.var 0) (.lit 0) 0 0] false]) (.post [.ro 1 [.hP 2 (.var 0) (.lit 0) 0 0] false, .ro 2 [.var 0] false, .hp 3 [] [.var 3] []] (.tup [.one (.sl (.var 3) (.var 4) (.var 5) (.var 6)), .one (.int .i64 (.lit 0))]))))))))) (.imp (.hB 2 (.var 0) (.lit 1) 0) (.post [.ro 1 [.hP 2 (.var 0) (.lit 0) 0 0] false, .ro 2 [.var 0] false] (.tup [.one (.sl (.lit (-1)) (.lit 0) (.lit 0) (.lit 0)), .one (.int .i64 (.lit 3))])))))
def oEndW : Walk Tryd.prog oΓ oEndS.fn where
  Λ := noLoops
  args := [TP (.var 0) (.lit 0)]
  mem := [.ro 1 [.hP 2 (.var 0) (.lit 0) 0 0] false, .ro 2 [.var 0] false]
  nv := 3
  nd := oEndNd
  ok := by kernel_rfl
theorem or2 : cloneBS.res = [.one .sl] := rfl
theorem sl3 {x y : Int} (hx : -1 ≤ x) (n c : Nat) : valP (some (.slice (slP x y) n c)) 3 = c := by
  rcases Int.lt_or_le x 0 with h | h
  · obtain rfl : x = -1 := by omega
    rfl
  · rw [slP_pos h]; rfl
theorem sl1z {x : Int} (hx : -1 ≤ x) (n c : Nat) : valP (some (.slice (slP x 0) n c)) 1 = 0 := by
  rcases Int.lt_or_le x 0 with h | h
  · obtain rfl : x = -1 := by omega
    rfl
  · rw [slP_pos h]; rfl
theorem oEndS_ok : oEndS.OK Tryd.prog := by
  refine Spec.of_fn (Γ := oΓ) oΓ_ok ?_
  rintro xs Hs Rs hl1 hl2 ⟨p, R, bs, lg, rfl, rfl, h, hlen⟩
  have e0 : Hs = [] := List.length_eq_zero_iff.1 hl1
  subst e0
  obtain ⟨a, x, c, rfl, hx, hc, hc0, hc1, hR⟩ := h.whole
  unfold svb at hc0 hR
  rw [Int.toNat_natCast] at hc0 hR
  refine ⟨oEndW, envI [(a : Int)] false [Hl.none, R, R], fun _ _ => True, fun _ _ => 0, ?_, ⟨?_, ?_, ?_, ?_⟩, (fun _ h => nomatch h), ?_⟩
  · show [Value.pointer (slP (a : Int) 0)] = _
    rw [ptr0]
  · intro r hr ho; simp [oEndW] at hr; rcases hr with rfl | rfl <;> cases ho
  · intro r hr ho; simp [oEndW] at hr
    rcases hr with rfl | rfl <;> exact ⟨R, by simp, Hl.le_refl _⟩
  · simp [oEndW, Res.own]
  · intro r hr; simp [oEndW] at hr; rcases hr with rfl | rfl <;> trivial
  · show Nd.holds _ _ _ oEndNd
    generalize hρ : envI [(a : Int)] false [Hl.none, R, R] = ρ
    have v0 : ρ.i 0 = a := by rw [← hρ]; rfl
    have w1 : ρ.h 1 = R := by rw [← hρ]; rfl
    have w2 : ρ.h 2 = R := by rw [← hρ]; rfl
    clear hρ
    have fail : ∀ (mem : Mem), lg = true ∨ 16384 < bs.length → postOf oEndS [.pointer (some ⟨a, 0, none⟩)] [] [R] ρ mem (.tup [.one (.sl (.lit (-1)) (.lit 0) (.lit 0) (.lit 0)), .one (.int .i64 (.lit 3))]) := by
      intro mem hf _
      have hs : endR bs lg = ([], 3) := by unfold endR; rw [if_pos hf]
      refine ⟨[], [], rfl, rfl, ⟨⟨fun k => if k = 0 then -1 else if k = 4 then 3 else 0, fun _ => false, fun _ => .empty, fun _ => .tuple #[], fun _ => Hl.none⟩, rfl, ⟨Int.le_refl _, Int.le_refl _, Int.le_refl _, Int.le_refl _⟩, trivial, trivial⟩, _, R, bs, lg, .slice none 0 0, rfl, rfl, h, ?_, ?_⟩
      · rw [hs]; rfl
      · rw [hs]; exact ownB_nil _ _
    have tn0 : Int.toNat 0 = 0 := rfl
    have tn1 : Int.toNat 1 = 1 := rfl
    unfold oEndNd
    simp only [Nd.holds, X.pre, X.rel, X.n, Src.ok, Src.len, Src.vals, true_and, and_true, if_true, Nat.mul_one, Nat.add_zero, Nat.reduceAdd, List.length_cons, List.length_nil, bT_tt, bT_ff, bT_bvar, bT_not, bT_and, bT_or, bT_ite, bT_lt, bT_le, bT_eq, bT_beq, bT_seq, bT_hB, bT_his, bT_hby, bT_hism, bT_hks, iev_lit, iev_var, iev_add, iev_sub, iev_mul, iev_wrap, iev_ite, iev_hI, iev_hP, iev_hmlen, sev_ite, sev_slit, sev_sof, sev_svar, TV.ev, SV.ev, CV.ev, List.map_cons, List.map_nil, Res.hl, cpTV, Cp.sv, Ck.cv, cpSVs, Cp.len, Ck.len, newHs_zero, newHs_one, roots_ne, og2, or2, ic1, tn0, tn1]
    rw [v0, w2, w1, Int.toNat_natCast, hc0, hc1, sl2 hx, sl0 hx, sl1z hx, sl3 hx]
    refine ⟨by omega, rfl, fun hb => ⟨rfl, by omega, fun hlt => fail _ (Or.inr (by omega)), fun hge => ?_⟩, fun hb => fail _ (Or.inl hb)⟩
    have hb : lg = false := Bool.eq_false_iff.2 hb
    rw [Int.toNat_natCast, Int.toNat_natCast]
    have hW := hR.w
    refine ⟨⟨_, bs, R, rfl, rfl, hW, hlen⟩, fun q g ⟨F1, hp, hF, hnm⟩ _ => ?_⟩
    have hO := clone_post hW hp
    rw [← hF trivial] at hO
    have hs : endR bs lg = (bs, 0) := by
      unfold endR
      have : ¬ (lg = true ∨ 16384 < bs.length) := by
        rintro (e | e)
        · rw [hb] at e; cases e
        · omega
      rw [if_neg this]
    refine ⟨[], [2], rfl, rfl, ⟨⟨fun k => if k = 4 then 0 else q.i (3 + k), fun _ => false, fun _ => .empty, fun _ => .tuple #[], fun _ => Hl.none⟩, rfl, hnm.1, trivial, trivial⟩, _, R, bs, lg, _, rfl, rfl, h, by rw [hs]; rfl, ?_⟩
    rw [hs]
    show OwB (hls [q.h 3]) _ _ _
    rw [hls_one]; exact hO
def rnumS : Sx.Spec where
  fn := 57
  own := []
  rd := []
  res := [.one .sl]
  pre := fun xs Hs Rs => ∃ z : Int, xs = [.int .u64 z] ∧ 0 ≤ z ∧ z < 18446744073709551616
  post := fun xs Hs Rs v Hs' F => ∃ z : Int, xs = [.int .u64 z] ∧ OwB F 5 v (numB z.toNat)
def rnumNd : Nd := .and (.inv 0 [⟨24, 0, .int .i64 (.var 0)⟩, ⟨20, 0, .int .i64 (.lit (-1))⟩, ⟨22, 0, .int .i64 (.lit 0)⟩, ⟨23, 0, .int .i64 (.lit 0)⟩] [(25, none)]) (.havoc 0 0 1 (.and (.imp (.lt (.lit 0) (.wrap .u64 (.quo (.var 24) (.lit 128)))) (.ext (.alloc 30) (.and (.pre (.app 31 5 1 1 (.sl (.var 20) (.lit 0) (.var 22) (.var 23)) (.var 22) (.hp 25 [] [.var 20] []) (.cvs [.int .u8 (.wrap .u8 (.wrap .u64 (.add (.rem (.var 24) (.lit 128)) (.lit 128))))] 1))) (.ext (.app 31 5 1 1 (.sl (.var 20) (.lit 0) (.var 22) (.var 23)) (.var 22) (.hp 25 [] [.var 20] []) (.cvs [.int .u8 (.wrap .u8 (.wrap .u64 (.add (.rem (.var 24) (.lit 128)) (.lit 128))))] 1)) (.back 0 0 [⟨24, 0, .int .i64 (.wrap .u64 (.quo (.var 24) (.lit 128)))⟩, ⟨20, 0, .int .i64 (.var 31)⟩, ⟨22, 0, .int .i64 (.add (.var 22) (.lit 1))⟩, ⟨23, 0, .int .i64 (.var 32)⟩] [(25, some 31)]))))) (.imp (.not (.lt (.lit 0) (.wrap .u64 (.quo (.var 24) (.lit 128))))) (.ext (.alloc 30) (.and (.pre (.app 31 5 1 1 (.sl (.var 20) (.lit 0) (.var 22) (.var 23)) (.var 22) (.hp 25 [] [.var 20] []) (.cvs [.int .u8 (.wrap .u8 (.var 24))] 1))) (.ext (.app 31 5 1 1 (.sl (.var 20) (.lit 0) (.var 22) (.var 23)) (.var 22) (.hp 25 [] [.var 20] []) (.cvs [.int .u8 (.wrap .u8 (.var 24))] 1)) (.post [.hp 31 [25] [.var 31, .var 20] [], .dead] (.sv (.one (.sl (.var 31) (.lit 0) (.add (.var 22) (.lit 1)) (.var 32)))))))))))
def rnumW : Walk Tryd.prog [] rnumS.fn where
  Λ := fun p => if lp0 p then some ⟨0, [(3, .sv (.one (.sl (.var 20) (.lit 0) (.var 22) (.var 23)))), (0, TI .u64 (.var 24))], [(0, .hp 25 [] [.var 20] [])], 30⟩ else none
  args := [TI .u64 (.var 0)]
  mem := []
  nv := 1
  nd := rnumNd
  ok := by kernel_rfl
theorem quo128 (y : Nat) (h : y < 18446744073709551616) : IntKind.u64.wrap ((y : Int).tdiv 128) = ((y / 128 : Nat) : Int) := by
  rw [Int.tdiv_eq_ediv_of_nonneg (by omega), wu64 (by omega) (by omega)]; omega
theorem rem128 (y : Nat) : IntKind.u8.wrap (IntKind.u64.wrap ((y : Int).tmod 128 + 128)) = ((y % 128 + 128 : Nat) : Int) := by
  rw [Int.tmod_eq_emod_of_nonneg (by omega), wu64 (by omega) (by omega), wu8]; omega
def rnumInv (all : List Int) (k : Nat) (q : Env) : Prop := oNumInv all 10 k q ∧ q.i 24 < 18446744073709551616
theorem rnumS_ok : rnumS.OK Tryd.prog := by
  refine Spec.of_fn (Γ := []) (fun _ h => by cases h) ?_
  rintro xs Hs Rs hl1 hl2 ⟨z, rfl, hz0, hz1⟩
  have e0 : Hs = [] := List.length_eq_zero_iff.1 hl1
  have e1 : Rs = [] := List.length_eq_zero_iff.1 hl2
  subst e0 e1
  have hnb := num_bound (z := z.toNat) (by omega)
  refine ⟨rnumW, envI [z] false [], rnumInv (numB z.toNat), fun _ q => (q.i 24).toNat, rfl, ⟨fun r hr => (by cases hr), fun r hr => (by cases hr), List.Pairwise.nil, fun r hr => (by cases hr)⟩, (fun _ h => nomatch h), ?_⟩
  show Nd.holds _ _ _ rnumNd
  generalize hρ : envI [z] false [] = ρ
  have v0 : ρ.i 0 = z := by rw [← hρ]; rfl
  clear hρ
  unfold rnumNd
  simp only [Nd.holds, X.pre, X.rel, X.n, Src.ok, Src.len, Src.vals, true_and, and_true, if_true, Nat.mul_one, Nat.add_zero, Nat.reduceAdd, List.length_cons, List.length_nil, bT_tt, bT_ff, bT_bvar, bT_not, bT_and, bT_or, bT_ite, bT_lt, bT_le, bT_eq, bT_beq, bT_seq, bT_hB, bT_his, bT_hby, bT_hism, bT_hks, iev_lit, iev_var, iev_add, iev_sub, iev_mul, iev_wrap, iev_ite, iev_hI, iev_hP, iev_hmlen, sev_ite, sev_slit, sev_sof, sev_svar, TV.ev, SV.ev, CV.ev, List.map_cons, List.map_nil, Res.hl, iev_quo, iev_rem]
  refine ⟨⟨⟨z.toNat, [], ?_, rfl, Nat.zero_le _, rfl, Int.le_refl _, Int.le_refl _, ⟨rfl, Or.inl ⟨rfl, rfl⟩⟩⟩, ?_⟩, fun q g ⟨⟨y, done, e24, hall, hdl, e22, r20, r23, hO⟩, hlt24⟩ => ?_⟩
  · show ρ.i 0 = _
    rw [v0]; omega
  · show ρ.i 0 < _
    rw [v0]; exact hz1
  have hal := congrArg List.length hall
  rw [List.length_append] at hal
  have hy64 : y < 18446744073709551616 := by omega
  rw [e24, quo128 y hy64]
  refine ⟨fun hge q1 g1 _ => ?_, fun hlt q1 g1 _ => ?_⟩
  · rw [g1.h 25 (by omega), g1.i 20 (by omega), g1.i 22 (by omega), g1.i 23 (by omega), g1.i 24 (by omega), e24, rem128]
    refine ⟨⟨⟨_, owB_pre hO e22⟩, by omega, by unfold maxLen; omega, by omega⟩, fun q2 g2 ⟨a1, a2, a3, _⟩ => ?_⟩
    have hyh : numB y = ((y % 128 + 128 : Nat) : Int) :: numB (y / 128) := numB_high (by omega)
    have hO2 := owB_app (bs2 := [((y % 128 + 128 : Nat) : Int)]) (m := 1) hO e22 rfl a3
    have e24' : IntKind.u64.wrap ((q2.i 24).tdiv 128) = ((y / 128 : Nat) : Int) := by
      rw [g2.i 24 (by omega), g1.i 24 (by omega), e24]; exact quo128 y hy64
    refine ⟨⟨⟨y / 128, done ++ [((y % 128 + 128 : Nat) : Int)], e24', ?_, ?_, ?_, a1, a2, ?_⟩, ?_⟩, ?_⟩
    · rw [List.append_assoc, ← hall, hyh]; rfl
    · rw [List.length_append, List.length_singleton]
      rw [hyh, List.length_cons] at hal
      omega
    · show q2.i 22 + 1 = _
      rw [g2.i 22 (by omega), g1.i 22 (by omega), e22, List.length_append, List.length_singleton]; omega
    · show OwB (q2.h 31) _ (.slice (slP (q2.i 31) 0) (q2.i 22 + 1).toNat (q2.i 32).toNat) _
      rw [g2.i 22 (by omega), g1.i 22 (by omega), e22]
      have := hO2
      unfold svb at this
      rw [List.length_append, List.length_singleton] at this
      exact this
    · show IntKind.u64.wrap ((q2.i 24).tdiv 128) < _
      rw [e24']; omega
    · show (IntKind.u64.wrap ((q2.i 24).tdiv 128)).toNat < _
      rw [e24']; omega
  · rw [g1.h 25 (by omega), g1.i 20 (by omega), g1.i 22 (by omega), g1.i 23 (by omega)]
    refine ⟨⟨⟨_, owB_pre hO e22⟩, by omega, by unfold maxLen; omega, by omega⟩, fun q2 g2 ⟨a1, a2, a3, _⟩ hd => ?_⟩
    have hyl : numB y = [(y : Int)] := numB_low (by omega)
    have eb : IntKind.u8.wrap (q1.i 24) = (y : Int) := by
      rw [g1.i 24 (by omega), e24, wu8]; omega
    rw [eb] at a3
    have hO2 := owB_app (bs2 := [(y : Int)]) (m := 1) hO e22 rfl a3
    rw [← hyl, hall] at hO2
    have e22' : q2.i 22 + 1 = ((numB z.toNat).length : Int) := by
      rw [g2.i 22 (by omega), g1.i 22 (by omega), e22]
      rw [hyl, List.length_singleton] at hal
      omega
    refine ⟨[], [0], rfl, rfl, ⟨⟨fun k => [q2.i 31, 0, q2.i 22 + 1, q2.i 32].getD k 0, fun _ => false, fun _ => .empty, fun _ => .tuple #[], fun _ => Hl.none⟩, rfl, ⟨a1, Int.le_refl _, by show 0 ≤ q2.i 22 + 1; omega, a2⟩, trivial⟩, z, rfl, ?_⟩
    show OwB (hls [q2.h 31]) _ (.slice (slP (q2.i 31) 0) (q2.i 22 + 1).toNat (q2.i 32).toNat) _
    rw [hls_one, e22']
    exact hO2
end Go.Proofs.YtomdimlnggpgbaaDoor
namespace Go.Proofs.YtomdimlnggpgbaaDoor.D
open Go Go.Sx
def noLoops : Loops := fun _ => none
def envI (l : List Int) (b : Bool) (hs : List Hl) : Env := ⟨fun k => l.getD k 0, fun _ => b, fun _ => .empty, fun _ => .tuple #[], fun k => hs.getD k Hl.none⟩
def fullL (c : Int) (bs : List Int) : List Int := (List.range 64).map fun i => (bs[i]?).getD c
theorem fullL_length (c : Int) (bs : List Int) : (fullL c bs).length = 64 := by simp [fullL]
theorem fullL_get (c : Int) (bs : List Int) (i : Nat) (h : i < 64) : (fullL c bs)[i]? = some ((bs[i]?).getD c) := by
  unfold fullL; rw [List.getElem?_map, List.getElem?_range h]; rfl
theorem fullL_take (c : Int) (bs : List Int) (i : Nat) (h : i < 64) : (fullL c bs).take (i + 1) = (fullL c bs).take i ++ [(bs[i]?).getD c] := by
  rw [List.take_add_one, fullL_get c bs i h]; rfl
def fullS : Sx.Spec where
  fn := 20
  own := []
  rd := [1]
  res := [.one .sl]
  pre := fun xs Hs Rs => ∃ c u bs R, xs = [.int .u8 c, u] ∧ Rs = [R] ∧ RdW R u bs
  post := fun xs Hs Rs v Hs' F => ∃ c u bs R, xs = [.int .u8 c, u] ∧ Rs = [R] ∧ RdW R u bs ∧ OwB F 5 v (fullL c bs)
def fullNd : Nd := .and (.inv 0 [⟨10, 0, .int .i64 (.lit (-1))⟩, ⟨12, 0, .int .i64 (.lit 0)⟩, ⟨13, 0, .int .i64 (.lit 0)⟩, ⟨14, 0, .int .i64 (.lit 0)⟩] [(10, none)]) (.havoc 0 0 5 (.and (.imp (.lt (.var 14) (.lit 64)) (.and (.e (.le (.lit 0) (.var 3))) (.and (.imp (.lt (.var 14) (.var 3)) (.and (.e (.le (.lit 0) (.var 1))) (.and (.e (.le (.lit 0) (.var 2))) (.and (.e (.le (.lit 0) (.var 14))) (.and (.e (.his 0 (.var 1) (.add (.var 2) (.var 14)) 0 (.int .u8))) (.ext (.alloc 15) (.and (.pre (.app 16 5 1 1 (.sl (.var 10) (.lit 0) (.var 12) (.var 13)) (.var 12) (.hp 10 [] [.var 10] []) (.cvs [.int .u8 (.hI 0 (.var 1) (.add (.var 2) (.var 14)) 0)] 1))) (.ext (.app 16 5 1 1 (.sl (.var 10) (.lit 0) (.var 12) (.var 13)) (.var 12) (.hp 10 [] [.var 10] []) (.cvs [.int .u8 (.hI 0 (.var 1) (.add (.var 2) (.var 14)) 0)] 1)) (.back 0 0 [⟨10, 0, .int .i64 (.var 16)⟩, ⟨12, 0, .int .i64 (.add (.var 12) (.lit 1))⟩, ⟨13, 0, .int .i64 (.var 17)⟩, ⟨14, 0, .int .i64 (.wrap .i64 (.add (.var 14) (.lit 1)))⟩] [(10, some 16)]))))))))) (.imp (.not (.lt (.var 14) (.var 3))) (.ext (.alloc 15) (.and (.pre (.app 16 5 1 1 (.sl (.var 10) (.lit 0) (.var 12) (.var 13)) (.var 12) (.hp 10 [] [.var 10] []) (.cvs [.int .u8 (.var 0)] 1))) (.ext (.app 16 5 1 1 (.sl (.var 10) (.lit 0) (.var 12) (.var 13)) (.var 12) (.hp 10 [] [.var 10] []) (.cvs [.int .u8 (.var 0)] 1)) (.back 0 0 [⟨10, 0, .int .i64 (.var 16)⟩, ⟨12, 0, .int .i64 (.add (.var 12) (.lit 1))⟩, ⟨13, 0, .int .i64 (.var 17)⟩, ⟨14, 0, .int .i64 (.wrap .i64 (.add (.var 14) (.lit 1)))⟩] [(10, some 16)])))))))) (.imp (.not (.lt (.var 14) (.lit 64))) (.post [.ro 0 [.var 1] false, .hp 10 [] [.var 10] []] (.sv (.one (.sl (.var 10) (.lit 0) (.var 12) (.var 13))))))))
def fullW : Walk Tryd.prog [] fullS.fn where
  Λ := fun p => if lp p then some ⟨0, [(5, .sv (.one (.sl (.var 10) (.lit 0) (.var 12) (.var 13)))), (6, TI .i64 (.var 14))], [(1, .hp 10 [] [.var 10] [])], 15⟩ else none
  args := [TI .u8 (.var 0), .sv (.one (.sl (.var 1) (.var 2) (.var 3) (.var 4)))]
  mem := [.ro 0 [.var 1] false]
  nv := 5
  nd := fullNd
  ok := by kernel_rfl
def fullInv (c : Int) (bs : List Int) (_ : Nat) (q : Env) : Prop := ∃ k : Nat, k ≤ 64 ∧ q.i 14 = k ∧ q.i 12 = k ∧ -1 ≤ q.i 10 ∧ 0 ≤ q.i 13 ∧ OwB (q.h 10) 5 (.slice (slP (q.i 10) 0) (q.i 12).toNat (q.i 13).toNat) ((fullL c bs).take k)
theorem fullS_ok : fullS.OK Tryd.prog := by
  refine Spec.of_fn (Γ := []) (fun _ h => by cases h) ?_
  rintro xs Hs Rs hl1 hl2 ⟨c, u, bs, R, rfl, rfl, x, y, cp, rfl, hy, hR⟩
  have e0 : Hs = [] := List.length_eq_zero_iff.1 hl1
  subst e0
  refine ⟨fullW, envI [c, x, y, bs.length, cp] false [R], fullInv c bs, fun _ q => (64 - q.i 14).toNat, ?_, ⟨?_, ?_, ?_, ?_⟩, (fun _ h => nomatch h), ?_⟩
  · simp [fullW, TI, TV.ev, SV.ev, CV.ev, iev_var, envI]
  · intro r hr ho; simp [fullW] at hr; subst hr; cases ho
  · intro r hr ho; simp [fullW] at hr; subst hr; exact ⟨R, by simp, Hl.le_refl _⟩
  · simp [fullW]
  · intro r hr; simp [fullW] at hr; subst hr; trivial
  · show Nd.holds _ _ _ fullNd
    unfold fullNd
    simp only [Nd.holds, X.pre, X.rel, X.n, Src.ok, Src.len, Src.vals, true_and, and_true, if_true, Nat.mul_one, Nat.add_zero, Nat.reduceAdd, List.length_cons, List.length_nil, bT_tt, bT_ff, bT_bvar, bT_not, bT_and, bT_or, bT_ite, bT_lt, bT_le, bT_eq, bT_beq, bT_seq, bT_hB, bT_his, bT_hby, bT_hism, bT_hks, iev_lit, iev_var, iev_add, iev_sub, iev_mul, iev_wrap, iev_ite, iev_hI, iev_hP, iev_hmlen, sev_ite, sev_slit, sev_sof, sev_svar, TV.ev, SV.ev, CV.ev, List.map_cons, List.map_nil, Res.hl]
    refine ⟨⟨0, by omega, ?_⟩, fun q g ⟨k, hk, e14, e12, h10, h13, hO⟩ => ?_⟩
    · refine ⟨rfl, rfl, by show (-1 : Int) ≤ -1; omega, by show (0 : Int) ≤ 0; omega, rfl, Or.inl ⟨rfl, rfl⟩⟩
    · have e0 : q.i 0 = c := g.i 0 (by omega)
      have e1 : q.i 1 = x := g.i 1 (by omega)
      have e2 : q.i 2 = y := g.i 2 (by omega)
      have e3 : q.i 3 = bs.length := g.i 3 (by omega)
      have eh : q.h 0 = R := g.h 0 (by omega)
      have hlen : ((fullL c bs).take k).length = k := by rw [List.length_take, fullL_length]; omega
      have hO' : ∀ q1, Agree 15 q q1 → OwnsH (q1.h 10) 5 1 (.slice (slP (q1.i 10) 0) (q1.i 12).toNat (q1.i 13).toNat) (q1.i 12).toNat (bys ((fullL c bs).take k)) := by
        intro q1 g1
        rw [g1.h 10 (by omega), g1.i 10 (by omega), g1.i 12 (by omega), g1.i 13 (by omega)]
        unfold OwB at hO
        rw [hlen] at hO
        rw [show (q.i 12).toNat = k by omega] at hO ⊢
        exact hO
      have hpre : ∀ q1, Agree 15 q q1 → k < 64 → (∃ xs, OwnsH (q1.h 10) 5 1 (.slice (slP (q1.i 10) 0) (q1.i 12).toNat (q1.i 13).toNat) (q1.i 12).toNat xs) ∧ 0 ≤ q1.i 12 ∧ (q1.i 12).toNat + 1 ≤ maxLen ∧ (q1.i 12).toNat + 1 ≤ 140737488355328 := by
        intro q1 g1 hk64
        have := g1.i 12 (by omega)
        exact ⟨⟨_, hO' q1 g1⟩, by omega, by unfold maxLen; omega, by omega⟩
      have step : ∀ (q1 q2 : Env) (z : Int), Agree 15 q q1 → Agree 16 q1 q2 → k < 64 → (bs[k]?).getD c = z → -1 ≤ q2.i 16 → 0 ≤ q2.i 17 →
          (∀ xs, OwnsH (q1.h 10) 5 1 (.slice (slP (q1.i 10) 0) (q1.i 12).toNat (q1.i 13).toNat) (q1.i 12).toNat xs → OwnsH (q2.h 16) 5 1 (.slice (slP (q2.i 16) 0) ((q1.i 12).toNat + 1) (q2.i 17).toNat) ((q1.i 12).toNat + 1) (xs ++ [.int .u8 z])) →
          fullInv c bs 0 (assign q2 [⟨10, 0, .int .i64 (.var 16)⟩, ⟨12, 0, .int .i64 (.add (.var 12) (.lit 1))⟩, ⟨13, 0, .int .i64 (.var 17)⟩, ⟨14, 0, .int .i64 (.wrap .i64 (.add (.var 14) (.lit 1)))⟩] [(10, some 16)]) ∧
          (64 - (assign q2 [⟨10, 0, .int .i64 (.var 16)⟩, ⟨12, 0, .int .i64 (.add (.var 12) (.lit 1))⟩, ⟨13, 0, .int .i64 (.var 17)⟩, ⟨14, 0, .int .i64 (.wrap .i64 (.add (.var 14) (.lit 1)))⟩] [(10, some 16)]).i 14).toNat < (64 - q.i 14).toNat := by
        intro q1 q2 z g1 g2 hk64 hz a1 a2 a3
        have d12 : q2.i 12 = k := by rw [g2.i 12 (by omega), g1.i 12 (by omega), e12]
        have d14 : q2.i 14 = k := by rw [g2.i 14 (by omega), g1.i 14 (by omega), e14]
        have w : IntKind.i64.wrap ((k : Int) + 1) = k + 1 := wrap_i64 (by omega) (by omega)
        have m14 : (assign q2 [⟨10, 0, .int .i64 (.var 16)⟩, ⟨12, 0, .int .i64 (.add (.var 12) (.lit 1))⟩, ⟨13, 0, .int .i64 (.var 17)⟩, ⟨14, 0, .int .i64 (.wrap .i64 (.add (.var 14) (.lit 1)))⟩] [(10, some 16)]).i 14 = k + 1 := by
          show IntKind.i64.wrap (q2.i 14 + 1) = _
          rw [d14, w]
        refine ⟨⟨k + 1, by omega, by rw [m14]; omega, ?_, a1, a2, ?_⟩, by rw [m14]; omega⟩
        · show q2.i 12 + 1 = _
          rw [d12]; omega
        · show OwB (q2.h 16) 5 (.slice (slP (q2.i 16) 0) (q2.i 12 + 1).toNat (q2.i 17).toNat) _
          have := a3 _ (hO' q1 g1)
          rw [fullL_take c bs k hk64, hz]
          unfold OwB
          rw [bys_append, List.length_append, hlen]
          rw [show (q1.i 12).toNat = k by rw [g1.i 12 (by omega)]; omega] at this
          rw [show (q2.i 12 + 1).toNat = k + 1 by omega]
          exact this
      refine ⟨fun hlt => ⟨by omega, fun h3 => ?_, fun h3 q1 g1 _ => ⟨hpre q1 g1 (by omega), fun q2 g2 ⟨a1, a2, a3, _⟩ => step q1 q2 _ g1 g2 (by omega) ?_ a1 a2 a3⟩⟩, fun hge => ?_⟩
      · rcases hR with h | ⟨hx, hR⟩
        · subst h; simp only [List.length_nil] at e3; omega
        · have hkb : k < bs.length := by omega
          have hc : R.cell x.toNat (y.toNat + k) = some (.int .u8 bs[k]) := hR k _ (List.getElem?_eq_getElem hkb)
          have ea : (q.i 2 + q.i 14).toNat = y.toNat + k := by omega
          refine ⟨by omega, by omega, by omega, by rw [eh, e1, ea, hc]; rfl, fun q1 g1 _ => ⟨hpre q1 g1 (by omega), fun q2 g2 ⟨a1, a2, a3, _⟩ => step q1 q2 _ g1 g2 (by omega) ?_ a1 a2 a3⟩⟩
          rw [g1.h 0 (by omega), g1.i 1 (by omega), g1.i 2 (by omega), g1.i 14 (by omega), eh, e1, ea, hc, List.getElem?_eq_getElem hkb]
          rfl
      · rw [g1.i 0 (by omega), e0, List.getElem?_eq_none (by omega)]; rfl
      · have hk64 : k = 64 := by omega
        subst hk64
        refine fun _ => ⟨[], [1], rfl, rfl, ⟨⟨fun n => [q.i 10, 0, q.i 12, q.i 13].getD n 0, fun _ => false, fun _ => .empty, fun _ => .tuple #[], fun _ => Hl.none⟩, rfl, ⟨h10, Int.le_refl _, by show 0 ≤ q.i 12; omega, h13⟩, trivial⟩, c, _, bs, R, rfl, rfl, ⟨x, y, cp, rfl, hy, hR⟩, ?_⟩
        rw [List.take_of_length_le (by rw [fullL_length]; omega)] at hO
        show OwB (hls [q.h 10]) _ _ _
        rw [hls_one]; exact hO
end Go.Proofs.YtomdimlnggpgbaaDoor.D
namespace Go.Proofs.YtomdimlnggpgbaaDoor.D
open Go Go.Sx
theorem mapPut_st {k : IntKind} {es : Array MapEntry} {l : List (Int × Value)} (h : MapIs k es l) {i : Int} (hn : mapGo i l 0 = none) (v : Value) {clock : Nat} (hs : MapKept.Stamped es clock) :
    ∃ es', mapPut (.int k) (.int k i) v es clock = .map es' (clock + 1) ∧ MapIs k es' (l ++ [(i, v)]) ∧ MapKept.Stamped es' (clock + 1) := by
  refine ⟨es.push ⟨.int k i, v, clock⟩, ?_, ?_, MapKept.stamped_push hs fun x hx he => ?_⟩
  · unfold mapPut
    rw [mapFind_int h, hn]
  · unfold MapIs at h ⊢
    rw [Array.toList_push, List.map_append, List.map_append, h]
    rfl
  · have : (x.key, x.val) ∈ l.map fun p => (Value.int k p.1, p.2) := by
      rw [← show es.toList.map (fun e => (e.key, e.val)) = _ from h]
      exact List.mem_map.2 ⟨x, hx, rfl⟩
    obtain ⟨q, hq, e⟩ := List.mem_map.1 this
    have h1 := mapGo_none.1 hn q hq
    rw [Prod.mk.injEq] at e
    rw [he] at e
    exact h1 (Value.int.inj e.1).2
structure DM where
  n : Nat
  now : List Int
  loose : List (Int × List Int)
  fuse : Int
  gone : Bool
structure DM.ok (D : DM) : Prop where
  now : D.now.length = 64 * D.n
  n : D.n ≤ 16384
  f0 : -1 ≤ D.fuse
  f1 : D.fuse ≤ 9223372036854775807
  loose : ∀ p ∈ D.loose, p.2.length = 64 ∧ 0 ≤ p.1 ∧ p.1 < D.n
def lv (l : List (Int × List Int)) : List (Int × Value) := l.map fun p => (p.1, .agg (bys p.2).toArray)
def dStruct (a s m n : Nat) (fuse : Int) (gone : Bool) : Hl := Hl.one a (.cells #[.slice (some ⟨s, 0, none⟩) n n, .map (some m), .int .i64 fuse, .bool gone] 66 (0, 0))
def dNow (s : Nat) (now : List Int) : Hl := Hl.one s (.cells (bys now).toArray 92 (0, 0))
structure DiskIn (H : Hl) (a s m : Nat) (es : Array MapEntry) (clock : Nat) (D : DM) : Prop where
  ok : D.ok
  map : MapIs .i64 es (lv D.loose)
  st : MapKept.Stamped es clock
  nas : a ≠ s
  nam : a ≠ m
  nsm : s ≠ m
  hl : H = hls [dStruct a s m D.n D.fuse D.gone, dNow s D.now, Hl.one m (.map es clock)]
def DiskAt (H : Hl) (v : Value) (D : DM) : Prop := ∃ a s m es clock, v = .pointer (some ⟨a, 0, none⟩) ∧ DiskIn H a s m es clock D
def dMem : Mem := [.blk 0 [.sl (.var 6) (.var 7) (.var 8) (.var 9), .map (.var 10), .int .i64 (.var 11), .bool (.bvar 12)] 66, .hp 13 [] [.var 6] [], .hp 14 [] [.var 10] []]
def dEnv (a s m : Nat) (D : DM) (l : List Int) (es : Array MapEntry) (clock : Nat) (R : Hl) : Env :=
  envI (([(a : Int)] ++ l ++ [(s : Int), 0, D.n, D.n, m, D.fuse])) D.gone (List.replicate 13 Hl.none ++ [dNow s D.now, Hl.one m (.map es clock), R])
theorem dBlk {q : Env} {a s m n : Nat} {fuse : Int} {gone : Bool} (h0 : q.i 0 = a) (h6 : q.i 6 = s) (h7 : q.i 7 = 0) (h8 : q.i 8 = n) (h9 : q.i 9 = n) (h10 : q.i 10 = m) {f : E} (hf : iev q f = fuse) {g : E} (hg : bev q g = gone) :
    (Res.blk 0 [.sl (.var 6) (.var 7) (.var 8) (.var 9), .map (.var 10), .int .i64 f, .bool g] 66).hl q = dStruct a s m n fuse gone := by
  simp only [Res.hl, List.map_cons, List.map_nil, CV.ev, iev_var, h0, h6, h7, h8, h9, h10, hf, hg, Int.toNat_natCast]
  rw [slP_pos (by omega), if_neg (by omega)]
  rfl
theorem dEntry {H : Hl} {a s m : Nat} {es : Array MapEntry} {clock : Nat} {D : DM} (h : DiskIn H a s m es clock D) (l : List Int) (hl : l.length = 5) (R : Hl) : Entry (dEnv a s m D l es clock R) dMem [H] [] := by
  obtain ⟨x1, x2, x3, x4, x5, rfl⟩ : ∃ x1 x2 x3 x4 x5, l = [x1, x2, x3, x4, x5] := by
    match l, hl with
    | [x1, x2, x3, x4, x5], _ => exact ⟨x1, x2, x3, x4, x5, rfl⟩
  have hb : (Res.blk 0 [.sl (.var 6) (.var 7) (.var 8) (.var 9), .map (.var 10), .int .i64 (.var 11), .bool (.bvar 12)] 66).hl (dEnv a s m D [x1, x2, x3, x4, x5] es clock R) = dStruct a s m D.n D.fuse D.gone := dBlk rfl rfl rfl rfl rfl rfl rfl rfl
  have d1 : (dStruct a s m D.n D.fuse D.gone).dis (dNow s D.now) := Hl.one_dis_one h.nas
  have d2 : (dStruct a s m D.n D.fuse D.gone).dis (Hl.one m (.map es clock)) := Hl.one_dis_one h.nam
  have d3 : (dNow s D.now).dis (Hl.one m (.map es clock)) := Hl.one_dis_one h.nsm
  obtain ⟨l1, l2, l3⟩ := hls3_le d1 d2 d3
  refine ⟨fun r hr ho => ⟨H, by simp, ?_⟩, fun r hr ho => ?_, ?_, fun r hr => ?_⟩
  · rw [h.hl]
    simp only [dMem, List.mem_cons, List.mem_nil_iff, or_false] at hr
    rcases hr with rfl | rfl | rfl
    · rw [hb]; exact l1
    · exact l2
    · exact l3
  · simp only [dMem, List.mem_cons, List.mem_nil_iff, or_false] at hr
    rcases hr with rfl | rfl | rfl <;> cases ho
  · unfold dMem
    refine List.Pairwise.cons (fun r hr _ _ => ?_) (List.Pairwise.cons (fun r hr _ _ => ?_) (List.Pairwise.cons (fun r hr => by cases hr) List.Pairwise.nil))
    · rw [hb]
      simp only [List.mem_cons, List.mem_nil_iff, or_false] at hr
      rcases hr with rfl | rfl
      · exact d1
      · exact d2
    · simp only [List.mem_cons, List.mem_nil_iff, or_false] at hr
      subst hr
      exact d3
  · simp only [dMem, List.mem_cons, List.mem_nil_iff, or_false] at hr
    rcases hr with rfl | rfl | rfl
    · show (0 : Int) ≤ (a : Int); omega
    · trivial
    · trivial
theorem dEntry2 {H : Hl} {a s m : Nat} {es : Array MapEntry} {clock : Nat} {D : DM} (h : DiskIn H a s m es clock D) (l : List Int) (hl : l.length = 5) (R : Hl) (t : List E) : Entry (dEnv a s m D l es clock R) (dMem ++ [.ro 15 t false]) [H] [R] := by
  obtain ⟨h1, h2, h3, h4⟩ := dEntry h l hl R
  refine ⟨fun r hr ho => ?_, fun r hr ho => ?_, ?_, fun r hr => ?_⟩
  · rcases List.mem_append.1 hr with hr | hr
    · exact h1 r hr ho
    · rw [List.mem_singleton] at hr; subst hr; cases ho
  · rcases List.mem_append.1 hr with hr | hr
    · obtain ⟨R, hR, _⟩ := h2 r hr ho; cases hR
    · rw [List.mem_singleton] at hr; subst hr
      exact ⟨R, by simp, Hl.le_refl _⟩
  · rw [List.pairwise_append]
    refine ⟨h3, by simp, fun r _ s hs _ ho => ?_⟩
    rw [List.mem_singleton] at hs; subst hs; cases ho
  · rcases List.mem_append.1 hr with hr | hr
    · exact h4 r hr
    · rw [List.mem_singleton] at hr; subst hr; trivial
def sects (n : Int) : Nat := (min (max n 0) 16384).toNat
def newD (n : Int) : DM := ⟨sects n, List.replicate (64 * sects n) 0, [], -1, false⟩
def newS : Sx.Spec where
  fn := 9
  own := []
  rd := []
  res := [.one .ptr]
  pre := fun xs Hs Rs => ∃ n, xs = [.int .i64 n]
  post := fun xs Hs Rs v Hs' F => ∃ n, xs = [.int .i64 n] ∧ DiskAt F v (newD n)
def newNd : Nd := .and (.pre (.mk 1 92 (List.replicate 64 (CV.int .u8 (.lit 0))) 64 (.ite (.lt (.lit 16384) (.ite (.lt (.var 0) (.lit 0)) (.lit 0) (.var 0))) (.lit 16384) (.ite (.lt (.var 0) (.lit 0)) (.lit 0) (.var 0))))) (.ext (.mk 1 92 (List.replicate 64 (CV.int .u8 (.lit 0))) 64 (.ite (.lt (.lit 16384) (.ite (.lt (.var 0) (.lit 0)) (.lit 0) (.var 0))) (.lit 16384) (.ite (.lt (.var 0) (.lit 0)) (.lit 0) (.var 0)))) (.and (.pre (.mnew 2)) (.ext (.mnew 2) (.ext (.alloc 3) (.post [.hp 1 [] [.var 1] [], .hp 2 [] [.var 2] [], .blk 3 [.sl (.var 1) (.lit 0) (.ite (.lt (.lit 16384) (.ite (.lt (.var 0) (.lit 0)) (.lit 0) (.var 0))) (.lit 16384) (.ite (.lt (.var 0) (.lit 0)) (.lit 0) (.var 0))) (.ite (.lt (.lit 16384) (.ite (.lt (.var 0) (.lit 0)) (.lit 0) (.var 0))) (.lit 16384) (.ite (.lt (.var 0) (.lit 0)) (.lit 0) (.var 0))), .map (.var 2), .int .i64 (.lit (-1)), .bool .ff] 66] (.sv (.one (.hptr (.var 3) (.lit 0)))))))))
def newW : Walk Tryd.prog [] newS.fn where
  Λ := noLoops
  args := [TI .i64 (.var 0)]
  mem := []
  nv := 1
  nd := newNd
  ok := by kernel_rfl
theorem made_rep (k n : Nat) (hk : 0 < k) (z : Value) : madeCells (List.replicate k z).toArray n = (List.replicate n z).toArray := by
  apply Array.ext
  · simp [madeCells]
  · intro i h1 h2
    simp [madeCells, List.getElem?_replicate, Nat.mod_lt _ hk]
theorem made_bytes (n : Nat) : madeCells (List.replicate 64 (Value.int .u8 0)).toArray (n * 64) = (bys (List.replicate (64 * n) 0)).toArray := by
  rw [made_rep 64 _ (by omega), Nat.mul_comm]
  unfold bys; rw [List.map_replicate]
theorem newS_ok : newS.OK Tryd.prog := by
  refine Spec.of_fn (Γ := []) (fun _ h => by cases h) ?_
  rintro xs Hs Rs hl1 hl2 ⟨n, rfl⟩
  have e0 : Hs = [] := List.length_eq_zero_iff.1 hl1
  have e1 : Rs = [] := List.length_eq_zero_iff.1 hl2
  subst e0; subst e1
  refine ⟨newW, envI [n] false [], fun _ _ => True, fun _ _ => 0, ?_, ⟨?_, ?_, ?_, ?_⟩, (fun _ h => nomatch h), ?_⟩
  · simp [newW, TI, TV.ev, SV.ev, CV.ev, iev_var, envI]
  · intro r hr; simp [newW] at hr
  · intro r hr; simp [newW] at hr
  · simp [newW]
  · intro r hr; simp [newW] at hr
  · show Nd.holds _ _ _ newNd
    unfold newNd
    simp only [Nd.holds, X.pre, X.rel, X.n, Src.ok, Src.len, Src.vals, true_and, and_true, if_true, Nat.mul_one, Nat.add_zero, Nat.reduceAdd, List.length_cons, List.length_nil, bT_tt, bT_ff, bT_bvar, bT_not, bT_and, bT_or, bT_ite, bT_lt, bT_le, bT_eq, bT_beq, bT_seq, bT_hB, bT_his, bT_hby, bT_hism, bT_hks, iev_lit, iev_var, iev_add, iev_sub, iev_mul, iev_wrap, iev_ite, iev_hI, iev_hP, iev_hmlen, sev_ite, sev_slit, sev_sof, sev_svar, TV.ev, SV.ev, CV.ev, List.map_cons, List.map_nil, Res.hl]
    have e : (if (16384 : Int) < if n < 0 then 0 else n then 16384 else if n < 0 then 0 else n) = (sects n : Int) := by
      unfold sects; split <;> split <;> omega
    have hs : sects n ≤ 16384 := by unfold sects; omega
    have hn0 : (envI [n] false []).i 0 = n := rfl
    rw [hn0]
    simp only [e]
    refine ⟨⟨by omega, by omega, by omega⟩, fun q1 g1 ⟨p1, hh1⟩ q2 g2 ⟨p2, hh2⟩ q3 g3 p3 hd => ?_⟩
    have i0 : q3.i 0 = n := by rw [g3.i 0 (by omega), g2.i 0 (by omega), g1.i 0 (by omega)]; rfl
    have i1 : q3.i 1 = q1.i 1 := by rw [g3.i 1 (by omega), g2.i 1 (by omega)]
    have i2 : q3.i 2 = q2.i 2 := by rw [g3.i 2 (by omega)]
    obtain ⟨s, hs1⟩ := Int.eq_ofNat_of_zero_le p1
    obtain ⟨m, hm1⟩ := Int.eq_ofNat_of_zero_le p2
    obtain ⟨a, ha1⟩ := Int.eq_ofNat_of_zero_le p3
    rw [hs1] at i1 hh1
    rw [hm1] at i2 hh2
    rw [Int.toNat_natCast] at hh1 hh2
    have ez : (List.replicate 64 (CV.int IntKind.u8 (E.lit 0))).map (CV.ev (envI [n] false [])) = List.replicate 64 (Value.int .u8 0) := rfl
    rw [ez] at hh1
    have h1 : q3.h 1 = dNow s (newD n).now := by
      rw [g3.h 1 (by omega), g2.h 1 (by omega), hh1, List.length_replicate, Int.toNat_natCast, made_bytes]
      rfl
    have h2 : q3.h 2 = Hl.one m (.map #[] 0) := by rw [g3.h 2 (by omega), hh2]
    have h3 : (Res.blk 3 [.sl (.var 1) (.lit 0) (.ite (.lt (.lit 16384) (.ite (.lt (.var 0) (.lit 0)) (.lit 0) (.var 0))) (.lit 16384) (.ite (.lt (.var 0) (.lit 0)) (.lit 0) (.var 0))) (.ite (.lt (.lit 16384) (.ite (.lt (.var 0) (.lit 0)) (.lit 0) (.var 0))) (.lit 16384) (.ite (.lt (.var 0) (.lit 0)) (.lit 0) (.var 0))), .map (.var 2), .int .i64 (.lit (-1)), .bool .ff] 66).hl q3 = dStruct a s m (sects n) (-1) false := by
      simp only [Res.hl, List.map_cons, List.map_nil, CV.ev, bT_tt, bT_ff, bT_bvar, bT_not, bT_and, bT_or, bT_ite, bT_lt, bT_le, bT_eq, bT_beq, bT_seq, bT_hB, bT_his, bT_hby, bT_hism, bT_hks, iev_lit, iev_var, iev_add, iev_sub, iev_mul, iev_wrap, iev_ite, iev_hI, iev_hP, iev_hmlen, sev_ite, sev_slit, sev_sof, sev_svar, bev_ff, bev_lt, decide_eq_true_eq, i0, i1, i2, ha1, e, Int.toNat_natCast]
      rw [slP_pos (by omega), if_neg (by omega)]
      rfl
    have d01 := hd 0 1 _ _ (by decide) rfl rfl rfl
    have d02 := hd 0 2 _ _ (by decide) rfl rfl rfl
    have d12 := hd 1 2 _ _ (by decide) rfl rfl rfl
    rw [h3] at d02 d12
    have d01 : (q3.h 1).dis (q3.h 2) := d01
    have d02 : (q3.h 1).dis (dStruct a s m (sects n) (-1) false) := d02
    have d12 : (q3.h 2).dis (dStruct a s m (sects n) (-1) false) := d12
    rw [h1] at d01 d02
    rw [h2] at d01 d12
    have nsm : s ≠ m := fun e => Hl.one_dis.1 d01 (Hl.one_mem.2 e)
    have nas : a ≠ s := fun e => Hl.one_dis.1 d02 (Hl.one_mem.2 e.symm)
    have nam : a ≠ m := fun e => Hl.one_dis.1 d12 (Hl.one_mem.2 e.symm)
    refine ⟨[], [2, 0, 1], rfl, rfl, ⟨q3.setI 0 (q3.i 3) |>.setI 1 0, rfl, ⟨by show -1 ≤ q3.i 3; omega, Int.le_refl _⟩, trivial⟩, n, rfl, a, s, m, #[], 0, ?_, ⟨⟨?_, hs, by show (-1 : Int) ≤ -1; omega, by show (-1 : Int) ≤ _; omega, fun p hp => by cases hp⟩, rfl, MapKept.stamped_empty _, nas, nam, nsm, ?_⟩⟩
    · simp only [TV.ev, SV.ev, CV.ev, iev_var, iev_lit, ha1]
      rw [slP_pos (by omega)]; rfl
    · show (List.replicate (64 * sects n) (0 : Int)).length = _
      rw [List.length_replicate]; rfl
    · show hls [_, q3.h 1, q3.h 2] = _
      rw [h1, h2]
      congr 1
      congr 1
end Go.Proofs.YtomdimlnggpgbaaDoor.D
namespace Go.Proofs.YtomdimlnggpgbaaDoor.D
open Go Go.Sx
theorem lv_inj {a b : List (Int × List Int)} (h : lv a = lv b) : a = b := by
  apply List.ext_getElem?
  intro j
  have := congrArg (fun l => l[j]?) h
  simp only [lv, List.getElem?_map] at this
  cases ha : a[j]? with
  | none =>
    cases hb : b[j]? with
    | none => rfl
    | some q => simp [ha, hb] at this
  | some p =>
    cases hb : b[j]? with
    | none => simp [ha, hb] at this
    | some q =>
      simp only [ha, hb, Option.map_some, Option.some.injEq, Prod.mk.injEq, Value.agg.injEq] at this
      obtain ⟨h1, h2⟩ := this
      have h3 := congrArg Array.toList h2
      have h4 := bys_inj h3
      obtain ⟨p1, p2⟩ := p
      obtain ⟨q1, q2⟩ := q
      simp only at h1 h4
      rw [h1, h4]
theorem MapIs.inj {k : IntKind} {es : Array MapEntry} {a b : List (Int × Value)} (h1 : MapIs k es a) (h2 : MapIs k es b) : a = b := by
  unfold MapIs at h1 h2
  rw [h1] at h2
  apply List.ext_getElem?
  intro j
  have := congrArg (fun l => l[j]?) h2
  simp only [List.getElem?_map] at this
  cases ha : a[j]? <;> cases hb : b[j]? <;> simp [ha, hb] at this ⊢
  exact Prod.ext this.1 this.2
theorem DiskIn.at {H : Hl} {a s m : Nat} {es : Array MapEntry} {clock : Nat} {D : DM} (h : DiskIn H a s m es clock D) :
    H a = some (.cells #[.slice (some ⟨s, 0, none⟩) D.n D.n, .map (some m), .int .i64 D.fuse, .bool D.gone] 66 (0, 0)) ∧ H s = some (.cells (bys D.now).toArray 92 (0, 0)) ∧ H m = some (.map es clock) := by
  obtain ⟨l1, l2, l3⟩ := hls3_le (A := dStruct a s m D.n D.fuse D.gone) (B := dNow s D.now) (C := Hl.one m (.map es clock)) (Hl.one_dis_one h.nas) (Hl.one_dis_one h.nam) (Hl.one_dis_one h.nsm)
  rw [h.hl]
  exact ⟨l1 _ _ (Hl.one_self _ _), l2 _ _ (Hl.one_self _ _), l3 _ _ (Hl.one_self _ _)⟩
theorem DiskAt.uniq {H : Hl} {v : Value} {D D' : DM} (h : DiskAt H v D) (h' : DiskAt H v D') : D = D' := by
  obtain ⟨a, s, m, es, clock, rfl, h⟩ := h
  obtain ⟨a', s', m', es', clock', he, h'⟩ := h'
  simp only [Value.pointer.injEq, Option.some.injEq, Addr.mk.injEq, and_true] at he
  subst he
  obtain ⟨x1, x2, x3⟩ := h.at
  obtain ⟨y1, y2, y3⟩ := h'.at
  rw [x1] at y1
  simp only [Option.some.injEq, Obj.cells.injEq, Array.mk.injEq, List.cons.injEq, Value.slice.injEq, Addr.mk.injEq, Value.map.injEq, Value.int.injEq, Value.bool.injEq, and_true, true_and] at y1
  obtain ⟨⟨rfl, hn, _⟩, rfl, hf, hg⟩ := y1
  rw [x2] at y2
  rw [x3] at y3
  simp only [Option.some.injEq, Obj.cells.injEq, List.toArray_inj, and_true] at y2
  simp only [Option.some.injEq, Obj.map.injEq] at y3
  obtain ⟨rfl, rfl⟩ := y3
  have e1 := bys_inj (congrArg Array.toList y2)
  have e2 := lv_inj (MapIs.inj h.map h'.map)
  obtain ⟨n, now, loose, fuse, gone⟩ := D
  obtain ⟨n', now', loose', fuse', gone'⟩ := D'
  simp only at hn hf hg e1 e2
  subst hn hf hg e1 e2
  rfl
theorem dExit {q : Env} {mem : Mem} {a s m : Nat} {es : Array MapEntry} {clock : Nat} {D : DM} (hok : D.ok) (hm : MapIs .i64 es (lv D.loose)) (hst : MapKept.Stamped es clock) (h1 : a ≠ s) (h2 : a ≠ m) (h3 : s ≠ m)
    (e1 : resAt q mem 0 = dStruct a s m D.n D.fuse D.gone) (e2 : resAt q mem 1 = dNow s D.now) (e3 : resAt q mem 2 = Hl.one m (.map es clock)) : DiskIn (uni q mem [0, 1, 2]) a s m es clock D :=
  ⟨hok, hm, hst, h1, h2, h3, by show hls [resAt q mem 0, resAt q mem 1, resAt q mem 2] = _; rw [e1, e2, e3]⟩
theorem dArg (a : Nat) : Value.pointer (slP (a : Int) 0) = .pointer (some ⟨a, 0, none⟩) := by rw [slP_pos (by omega)]; rfl
def numS (f : FuncId) (num : DM → Int) : Sx.Spec where
  fn := f
  own := [.arg 0]
  rd := []
  res := [.one (.int .i64)]
  pre := fun xs Hs Rs => ∃ p H D, xs = [p] ∧ Hs = [H] ∧ DiskAt H p D
  post := fun xs Hs Rs v Hs' F => ∃ p H D H', xs = [p] ∧ Hs = [H] ∧ DiskAt H p D ∧ Hs' = [H'] ∧ DiskAt H' p D ∧ v = .int .i64 (num D)
def sectorsS := numS 29 fun D => D.n
def sectorsNd : Nd := .and (.e (.le (.lit 0) (.var 8))) (.post [.blk 0 [.sl (.var 6) (.var 7) (.var 8) (.var 9), .map (.var 10), .int .i64 (.var 11), .bool (.bvar 12)] 66, .hp 13 [] [.var 6] [], .hp 14 [] [.var 10] []] (.sv (.one (.int .i64 (.var 8)))))
def sectorsW : Walk Tryd.prog [] sectorsS.fn where
  Λ := noLoops
  args := [TP (.var 0) (.lit 0)]
  mem := dMem
  nv := 15
  nd := sectorsNd
  ok := by kernel_rfl
theorem sectorsS_ok : sectorsS.OK Tryd.prog := by
  refine Spec.of_fn (Γ := []) (fun _ h => by cases h) ?_
  rintro xs Hs Rs hl1 hl2 ⟨p, H, D, rfl, rfl, a, s, m, es, clock, rfl, h⟩
  have e1 : Rs = [] := List.length_eq_zero_iff.1 hl2
  subst e1
  refine ⟨sectorsW, dEnv a s m D [0, 0, 0, 0, 0] es clock Hl.none, fun _ _ => True, fun _ _ => 0, ?_, dEntry h _ rfl _, (fun _ h => nomatch h), ?_⟩
  · show [Value.pointer (slP (a : Int) 0)] = _; rw [dArg]
  · show Nd.holds _ _ _ sectorsNd
    unfold sectorsNd
    simp only [Nd.holds, X.pre, X.rel, X.n, Src.ok, Src.len, Src.vals, true_and, and_true, if_true, Nat.mul_one, Nat.add_zero, Nat.reduceAdd, List.length_cons, List.length_nil, bT_tt, bT_ff, bT_bvar, bT_not, bT_and, bT_or, bT_ite, bT_lt, bT_le, bT_eq, bT_beq, bT_seq, bT_hB, bT_his, bT_hby, bT_hism, bT_hks, iev_lit, iev_var, iev_add, iev_sub, iev_mul, iev_wrap, iev_ite, iev_hI, iev_hP, iev_hmlen, sev_ite, sev_slit, sev_sof, sev_svar, TV.ev, SV.ev, CV.ev, List.map_cons, List.map_nil, Res.hl]
    refine ⟨by show (0 : Int) ≤ (D.n : Int); omega, fun _ => ⟨[[0, 1, 2]], [], rfl, rfl, ⟨⟨fun _ => D.n, fun _ => false, fun _ => .empty, fun _ => .tuple #[], fun _ => Hl.none⟩, rfl, trivial, trivial⟩, _, H, D, _, rfl, rfl, ⟨a, s, m, es, clock, rfl, h⟩, rfl, ⟨a, s, m, es, clock, rfl, ?_⟩, rfl⟩⟩
    exact dExit h.ok h.map h.st h.nas h.nam h.nsm (dBlk rfl rfl rfl rfl rfl rfl rfl rfl) rfl rfl
def DM.has (D : DM) (i : Int) : Bool := decide (0 ≤ i ∧ i < D.n)
def DM.sector (D : DM) (i : Int) : List Int := (D.now.drop (64 * i.toNat)).take 64
def readR (D : DM) (i : Int) : List Int × Int := if D.has i = false then ([], 1) else if D.gone then ([], 5) else (D.sector i, 0)
theorem sector_length {D : DM} (h : D.ok) {i : Int} (hi : D.has i = true) : (D.sector i).length = 64 := by
  unfold DM.has at hi
  simp only [decide_eq_true_eq] at hi
  unfold DM.sector
  rw [List.length_take, List.length_drop, h.now]
  omega
theorem sector_get {D : DM} (h : D.ok) {i : Int} (hi : D.has i = true) {j : Nat} (hj : j < 64) : (D.sector i)[j]? = D.now[64 * i.toNat + j]? := by
  unfold DM.sector
  rw [List.getElem?_take_of_lt hj, List.getElem?_drop]
theorem now_cell {D : DM} (s y : Nat) : (dNow s D.now).cell s y = (D.now[y]?).map (Value.int .u8) := by
  unfold dNow
  rw [Hl.one_cell, List.getElem?_toArray, bys_get]
def readS : Sx.Spec where
  fn := 75
  own := [.arg 0]
  rd := []
  res := [.one .sl, .one (.int .i64)]
  pre := fun xs Hs Rs => ∃ p i H D, xs = [p, .int .i64 i] ∧ Hs = [H] ∧ DiskAt H p D
  post := fun xs Hs Rs v Hs' F => ∃ p i H D H' u, xs = [p, .int .i64 i] ∧ Hs = [H] ∧ DiskAt H p D ∧ Hs' = [H'] ∧ DiskAt H' p D ∧ v = .tuple #[u, .int .i64 (readR D i).2] ∧ OwB F 5 u (readR D i).1
def readNd : Nd := .and (.imp (.le (.lit 0) (.var 1)) (.and (.e (.le (.lit 0) (.var 8))) (.and (.imp (.not (.lt (.var 1) (.var 8))) (.post [.blk 0 [.sl (.var 6) (.var 7) (.var 8) (.var 9), .map (.var 10), .int .i64 (.var 11), .bool (.bvar 12)] 66, .hp 13 [] [.var 6] [], .hp 14 [] [.var 10] []] (.tup [.one (.sl (.lit (-1)) (.lit 0) (.lit 0) (.lit 0)), .one (.int .i64 (.lit 1))]))) (.imp (.lt (.var 1) (.var 8)) (.and (.imp (.bvar 12) (.post [.blk 0 [.sl (.var 6) (.var 7) (.var 8) (.var 9), .map (.var 10), .int .i64 (.var 11), .bool (.bvar 12)] 66, .hp 13 [] [.var 6] [], .hp 14 [] [.var 10] []] (.tup [.one (.sl (.lit (-1)) (.lit 0) (.lit 0) (.lit 0)), .one (.int .i64 (.lit 5))]))) (.imp (.not (.bvar 12)) (.and (.e (.le (.lit 0) (.var 6))) (.and (.e (.le (.lit 0) (.var 7))) (.ext (.alloc 15) (.and (.pre (.app 16 5 1 1 (.sl (.var 15) (.lit 0) (.lit 0) (.lit 0)) (.lit 0) (.blk 15 [] 5) (.seg 13 (.var 6) (.add (.var 7) (.mul (.var 1) (.lit 64))) (.lit 64)))) (.ext (.app 16 5 1 1 (.sl (.var 15) (.lit 0) (.lit 0) (.lit 0)) (.lit 0) (.blk 15 [] 5) (.seg 13 (.var 6) (.add (.var 7) (.mul (.var 1) (.lit 64))) (.lit 64))) (.post [.blk 0 [.sl (.var 6) (.var 7) (.var 8) (.var 9), .map (.var 10), .int .i64 (.var 11), .bool (.bvar 12)] 66, .hp 13 [] [.var 6] [], .hp 14 [] [.var 10] [], .hp 16 [] [.var 16, .var 15] []] (.tup [.one (.sl (.var 16) (.lit 0) (.lit 64) (.var 17)), .one (.int .i64 (.lit 0))]))))))))))))) (.imp (.not (.le (.lit 0) (.var 1))) (.post [.blk 0 [.sl (.var 6) (.var 7) (.var 8) (.var 9), .map (.var 10), .int .i64 (.var 11), .bool (.bvar 12)] 66, .hp 13 [] [.var 6] [], .hp 14 [] [.var 10] []] (.tup [.one (.sl (.lit (-1)) (.lit 0) (.lit 0) (.lit 0)), .one (.int .i64 (.lit 1))])))
def readW : Walk Tryd.prog [] readS.fn where
  Λ := noLoops
  args := [TP (.var 0) (.lit 0), TI .i64 (.var 1)]
  mem := dMem
  nv := 15
  nd := readNd
  ok := by kernel_rfl
theorem readS_ok : readS.OK Tryd.prog := by
  refine Spec.of_fn (Γ := []) (fun _ h => by cases h) ?_
  rintro xs Hs Rs hl1 hl2 ⟨p, i, H, D, rfl, rfl, a, s, m, es, clock, rfl, h⟩
  have e1 : Rs = [] := List.length_eq_zero_iff.1 hl2
  subst e1
  refine ⟨readW, dEnv a s m D [i, 0, 0, 0, 0] es clock Hl.none, fun _ _ => True, fun _ _ => 0, ?_, dEntry h _ rfl _, (fun _ h => nomatch h), ?_⟩
  · show [Value.pointer (slP (a : Int) 0), Value.int .i64 i] = _; rw [dArg]
  · show Nd.holds _ _ _ readNd
    unfold readNd
    simp only [Nd.holds, X.pre, X.rel, X.n, Src.ok, Src.len, Src.vals, true_and, and_true, if_true, Nat.mul_one, Nat.add_zero, Nat.reduceAdd, List.length_cons, List.length_nil, bT_tt, bT_ff, bT_bvar, bT_not, bT_and, bT_or, bT_ite, bT_lt, bT_le, bT_eq, bT_beq, bT_seq, bT_hB, bT_his, bT_hby, bT_hism, bT_hks, iev_lit, iev_var, iev_add, iev_sub, iev_mul, iev_wrap, iev_ite, iev_hI, iev_hP, iev_hmlen, sev_ite, sev_slit, sev_sof, sev_svar, TV.ev, SV.ev, CV.ev, List.map_cons, List.map_nil, Res.hl]
    have v1 : (dEnv a s m D [i, 0, 0, 0, 0] es clock Hl.none).i 1 = i := rfl
    have v6 : (dEnv a s m D [i, 0, 0, 0, 0] es clock Hl.none).i 6 = s := rfl
    have v7 : (dEnv a s m D [i, 0, 0, 0, 0] es clock Hl.none).i 7 = 0 := rfl
    have v8 : (dEnv a s m D [i, 0, 0, 0, 0] es clock Hl.none).i 8 = D.n := rfl
    have vb : (dEnv a s m D [i, 0, 0, 0, 0] es clock Hl.none).b 12 = D.gone := rfl
    rw [v1, v6, v7, v8, vb]
    have keep : ∀ (q : Env) (t : Mem), Agree 15 (dEnv a s m D [i, 0, 0, 0, 0] es clock Hl.none) q → DiskAt (uni q (dMem ++ t) [0, 1, 2]) (.pointer (some ⟨a, 0, none⟩)) D := fun q t g =>
      ⟨a, s, m, es, clock, rfl, dExit h.ok h.map h.st h.nas h.nam h.nsm (dBlk (f := .var 11) (g := .bvar 12) (g.i 0 (by omega)) (g.i 6 (by omega)) (g.i 7 (by omega)) (g.i 8 (by omega)) (g.i 9 (by omega)) (g.i 10 (by omega)) (g.i 11 (by omega)) (g.b 12 (by omega))) (g.h 13 (by omega)) (g.h 14 (by omega))⟩
    have bad : ∀ e : Int, readR D i = ([], e) → postOf readS [.pointer (some ⟨a, 0, none⟩), .int .i64 i] [H] [] (dEnv a s m D [i, 0, 0, 0, 0] es clock Hl.none) dMem (.tup [.one (.sl (.lit (-1)) (.lit 0) (.lit 0) (.lit 0)), .one (.int .i64 (.lit e))]) := fun e he _ =>
      ⟨[[0, 1, 2]], [], rfl, rfl, ⟨⟨fun k => [-1, 0, 0, 0, e].getD k 0, fun _ => false, fun _ => .empty, fun _ => .tuple #[], fun _ => Hl.none⟩, rfl, ⟨by show (-1 : Int) ≤ -1; omega, Int.le_refl _, Int.le_refl _, Int.le_refl _⟩, trivial, trivial⟩, _, i, H, D, _, _, rfl, rfl, ⟨a, s, m, es, clock, rfl, h⟩, rfl, keep _ [] (Agree.refl _ _), by rw [he]; rfl, by rw [he]; exact ⟨rfl, Or.inl ⟨rfl, rfl⟩⟩⟩
    refine ⟨fun h0 => ⟨by omega, fun hn => bad 1 ?_, fun hn => ⟨fun hg => bad 5 ?_, fun hg => ⟨by omega, by omega, fun q1 g1 p1 => ⟨⟨⟨[], ?_⟩, by omega, Or.inl ⟨?_, ?_, by omega, ?_⟩, by decide, by decide⟩, fun q2 g2 ⟨a1, a2, a3, _⟩ _ => ?_⟩⟩⟩⟩, fun h0 => bad 1 ?_⟩
    · unfold readR DM.has; rw [if_pos (by simp only [decide_eq_false_iff_not]; omega)]
    · have hh : D.has i = true := by unfold DM.has; simpa using ⟨h0, hn⟩
      unfold readR; rw [hh, hg]; rfl
    · refine ⟨rfl, Or.inr ⟨(q1.i 15).toNat, 0, #[], by rw [slP_pos p1]; rfl, Hl.one_self _ _, by omega, by decide, rfl, rfl⟩⟩
    · rw [g1.i 6 (by omega), v6]; omega
    · rw [g1.i 7 (by omega), g1.i 1 (by omega), v7, v1]; omega
    · intro j hj
      have hj : j < 64 := hj
      rw [g1.h 13 (by omega), g1.i 6 (by omega), g1.i 7 (by omega), g1.i 1 (by omega), v6, v7, v1]
      show ∃ v, (dNow s D.now).cell s _ = some v ∧ _
      rw [now_cell, List.getElem?_eq_getElem (by rw [h.ok.now]; omega)]
      exact ⟨_, rfl, rfl⟩
    · have hh : D.has i = true := by unfold DM.has; simpa using ⟨h0, hn⟩
      have hr : readR D i = (D.sector i, 0) := by
        unfold readR; rw [hh]; simp only [Bool.true_eq_false, if_false]; rw [if_neg hg]
      have hsl := sector_length h.ok hh
      have hseg : segVals (q1.h 13) (q1.i 6).toNat (q1.i 7 + q1.i 1 * 64).toNat (Int.toNat 64) = bys (D.sector i) := by
        rw [g1.h 13 (by omega), g1.i 6 (by omega), g1.i 7 (by omega), g1.i 1 (by omega), v6, v7, v1]
        show segVals (dNow s D.now) s _ 64 = _
        unfold segVals
        apply List.ext_getElem?
        intro j
        rw [List.getElem?_map, bys_get]
        rcases Nat.lt_or_ge j 64 with hj | hj
        · rw [List.getElem?_range hj, Option.map_some, now_cell, sector_get h.ok hh hj, show (0 + i * 64).toNat + j = 64 * i.toNat + j by omega, List.getElem?_eq_getElem (by rw [h.ok.now]; omega)]
          rfl
        · rw [List.getElem?_eq_none (by simpa using hj), List.getElem?_eq_none (by omega)]; rfl
      have hx := a3 [] ⟨rfl, Or.inr ⟨(q1.i 15).toNat, 0, #[], by rw [slP_pos p1]; rfl, Hl.one_self _ _, by omega, by decide, rfl, rfl⟩⟩
      rw [hseg, List.nil_append] at hx
      refine ⟨[[0, 1, 2]], [3], rfl, rfl, ⟨⟨fun k => [q2.i 16, 0, 64, q2.i 17, 0].getD k 0, fun _ => false, fun _ => .empty, fun _ => .tuple #[], fun _ => Hl.none⟩, rfl, ⟨a1, Int.le_refl _, by show (0 : Int) ≤ 64; omega, a2⟩, trivial, trivial⟩, _, i, H, D, _, _, rfl, rfl, ⟨a, s, m, es, clock, rfl, h⟩, rfl, keep q2 _ (g1.trans (g2.mono (by omega))), by rw [hr]; rfl, ?_⟩
      rw [hr]
      show OwnsH (hls [q2.h 16]) _ _ _ _ _
      rw [hls_one, hsl]
      exact hx
    · unfold readR DM.has; rw [if_pos (by simp only [decide_eq_false_iff_not]; omega)]
end Go.Proofs.YtomdimlnggpgbaaDoor.D
namespace Go.Proofs.YtomdimlnggpgbaaDoor.D
open Go Go.Sx
def putD (D : DM) (i : Int) (bs : List Int) : DM := ⟨D.n, splice D.now (64 * i.toNat) bs, if (mapGo i (lv D.loose) 0).isSome then D.loose else D.loose ++ [(i, D.sector i)], if 0 < D.fuse then D.fuse - 1 else D.fuse, false⟩
def writeR (D : DM) (i : Int) (bs : List Int) : Int × DM :=
  if D.has i = false ∨ bs.length ≠ 64 then (1, D) else if D.gone then (5, D) else if D.fuse = 0 then (5, { D with gone := true }) else (0, putD D i bs)
def writeG (rdP : Hl → Value → List Int → Prop) : Sx.Spec where
  fn := 19
  own := [.arg 0]
  rd := [2]
  res := [.one (.int .i64)]
  pre := fun xs Hs Rs => ∃ p i u bs H R D, xs = [p, .int .i64 i, u] ∧ Hs = [H] ∧ Rs = [R] ∧ DiskAt H p D ∧ rdP R u bs
  post := fun xs Hs Rs v Hs' F => ∃ p i u bs H R D H', xs = [p, .int .i64 i, u] ∧ Hs = [H] ∧ Rs = [R] ∧ DiskAt H p D ∧ rdP R u bs ∧ Hs' = [H'] ∧ DiskAt H' p (writeR D i bs).2 ∧ v = .int .i64 (writeR D i bs).1
def writeS : Sx.Spec := writeG RdB
def writeTail (f : E) : Nd := .and (.pre (.mget 16 14 (.var 10) (.int .i64) (.int .i64 (.var 1)) (.agg (List.replicate 64 (CV.int .u8 (.lit 0)))) (List.replicate 64 (Ck.int .u8)) true)) (.ext (.mget 16 14 (.var 10) (.int .i64) (.int .i64 (.var 1)) (.agg (List.replicate 64 (CV.int .u8 (.lit 0)))) (List.replicate 64 (Ck.int .u8)) true) (.ext (.alloc 81) (.and (.imp (.not (.bvar 80)) (.and (.e (.le (.lit 0) (.var 6))) (.and (.e (.le (.lit 0) (.var 7))) (.and (.e (.hby 13 (.var 6) (.add (.var 7) (.mul (.var 1) (.lit 64))) (.lit 64))) (.and (.pre (.mset 82 14 (.var 10) (.int .i64) (.int .i64 (.var 1)) (.agg (romCells 13 (.var 6) (.add (.var 7) (.mul (.var 1) (.lit 64))) 0 (List.replicate 64 (Kd.int .u8)))))) (.ext (.mset 82 14 (.var 10) (.int .i64) (.int .i64 (.var 1)) (.agg (romCells 13 (.var 6) (.add (.var 7) (.mul (.var 1) (.lit 64))) 0 (List.replicate 64 (Kd.int .u8))))) (.and (.e (.le (.lit 0) (.var 2))) (.and (.e (.le (.lit 0) (.var 3))) (.and (.e (.hby 15 (.var 2) (.var 3) (.lit 64))) (.and (.pre (.put 83 13 (.var 6) (.add (.var 7) (.mul (.var 1) (.lit 64))) (romCells 15 (.var 2) (.var 3) 0 (List.replicate 64 (Kd.int .u8))))) (.ext (.put 83 13 (.var 6) (.add (.var 7) (.mul (.var 1) (.lit 64))) (romCells 15 (.var 2) (.var 3) 0 (List.replicate 64 (Kd.int .u8)))) (.post [.blk 0 [.sl (.var 6) (.var 7) (.var 8) (.var 9), .map (.var 10), .int .i64 f, .bool (.bvar 12)] 66, .hp 83 [13] [.var 6] [], .hp 82 [14] [.var 10] [], .ro 15 [.var 2] false, .dead] (.sv (.one (.int .i64 (.lit 0)))))))))))))))) (.imp (.bvar 80) (.and (.e (.le (.lit 0) (.var 2))) (.and (.e (.le (.lit 0) (.var 3))) (.and (.e (.hby 15 (.var 2) (.var 3) (.lit 64))) (.and (.e (.le (.lit 0) (.var 6))) (.and (.e (.le (.lit 0) (.var 7))) (.and (.pre (.put 82 13 (.var 6) (.add (.var 7) (.mul (.var 1) (.lit 64))) (romCells 15 (.var 2) (.var 3) 0 (List.replicate 64 (Kd.int .u8))))) (.ext (.put 82 13 (.var 6) (.add (.var 7) (.mul (.var 1) (.lit 64))) (romCells 15 (.var 2) (.var 3) 0 (List.replicate 64 (Kd.int .u8)))) (.post [.blk 0 [.sl (.var 6) (.var 7) (.var 8) (.var 9), .map (.var 10), .int .i64 f, .bool (.bvar 12)] 66, .hp 82 [13] [.var 6] [], .hp 14 [] [.var 10] [], .ro 15 [.var 2] false, .dead] (.sv (.one (.int .i64 (.lit 0))))))))))))))))
def writeNd : Nd := .and (.imp (.le (.lit 0) (.var 1)) (.and (.e (.le (.lit 0) (.var 8))) (.and (.imp (.lt (.var 1) (.var 8)) (.and (.e (.le (.lit 0) (.var 4))) (.and (.imp (.not (.eq (.var 4) (.lit 64))) (.post [.blk 0 [.sl (.var 6) (.var 7) (.var 8) (.var 9), .map (.var 10), .int .i64 (.var 11), .bool (.bvar 12)] 66, .hp 13 [] [.var 6] [], .hp 14 [] [.var 10] [], .ro 15 [.var 2] false] (.sv (.one (.int .i64 (.lit 1)))))) (.imp (.eq (.var 4) (.lit 64)) (.and (.imp (.not (.bvar 12)) (.and (.imp (.eq (.var 11) (.lit 0)) (.post [.blk 0 [.sl (.var 6) (.var 7) (.var 8) (.var 9), .map (.var 10), .int .i64 (.var 11), .bool .tt] 66, .hp 13 [] [.var 6] [], .hp 14 [] [.var 10] [], .ro 15 [.var 2] false] (.sv (.one (.int .i64 (.lit 5)))))) (.imp (.not (.eq (.var 11) (.lit 0))) (.and (.imp (.lt (.lit 0) (.var 11)) (writeTail (.wrap .i64 (.sub (.var 11) (.lit 1))))) (.imp (.not (.lt (.lit 0) (.var 11))) (writeTail (.var 11))))))) (.imp (.bvar 12) (.post [.blk 0 [.sl (.var 6) (.var 7) (.var 8) (.var 9), .map (.var 10), .int .i64 (.var 11), .bool (.bvar 12)] 66, .hp 13 [] [.var 6] [], .hp 14 [] [.var 10] [], .ro 15 [.var 2] false] (.sv (.one (.int .i64 (.lit 5))))))))))) (.imp (.not (.lt (.var 1) (.var 8))) (.post [.blk 0 [.sl (.var 6) (.var 7) (.var 8) (.var 9), .map (.var 10), .int .i64 (.var 11), .bool (.bvar 12)] 66, .hp 13 [] [.var 6] [], .hp 14 [] [.var 10] [], .ro 15 [.var 2] false] (.sv (.one (.int .i64 (.lit 1))))))))) (.imp (.not (.le (.lit 0) (.var 1))) (.post [.blk 0 [.sl (.var 6) (.var 7) (.var 8) (.var 9), .map (.var 10), .int .i64 (.var 11), .bool (.bvar 12)] 66, .hp 13 [] [.var 6] [], .hp 14 [] [.var 10] [], .ro 15 [.var 2] false] (.sv (.one (.int .i64 (.lit 1))))))
def writeW : Walk Tryd.prog [] 19 where
  Λ := noLoops
  args := [TP (.var 0) (.lit 0), TI .i64 (.var 1), .sv (.one (.sl (.var 2) (.var 3) (.var 4) (.var 5)))]
  mem := dMem ++ [.ro 15 [.var 2] false]
  nv := 16
  nd := writeNd
  ok := by kernel_rfl
theorem ckOf_bys (l : List Int) : (bys l).map ckOf = List.replicate l.length (.int .u8) := by
  unfold bys
  rw [List.map_map]
  induction l with
  | nil => rfl
  | cons a l ih => rw [List.map_cons, List.length_cons, List.replicate_succ, ih]; rfl
theorem putD_ok {D : DM} (h : D.ok) {i : Int} (hi : D.has i = true) {bs : List Int} (hb : bs.length = 64) : (putD D i bs).ok := by
  have hh : 0 ≤ i ∧ i < D.n := by unfold DM.has at hi; simpa using hi
  refine ⟨?_, h.n, ?_, ?_, fun p hp => ?_⟩
  · show (splice D.now (64 * i.toNat) bs).length = _
    rw [splice_length (by rw [h.now]; omega), h.now]; rfl
  · have := h.f0
    show (-1 : Int) ≤ if 0 < D.fuse then D.fuse - 1 else D.fuse
    split <;> omega
  · have := h.f1
    show (if 0 < D.fuse then D.fuse - 1 else D.fuse) ≤ (9223372036854775807 : Int)
    split <;> omega
  · have hp : p ∈ (if (mapGo i (lv D.loose) 0).isSome then D.loose else D.loose ++ [(i, D.sector i)]) := hp
    split at hp
    · exact h.loose p hp
    · rcases List.mem_append.1 hp with hp | hp
      · exact h.loose p hp
      · rw [List.mem_singleton] at hp; subst hp
        exact ⟨sector_length h hi, hh.1, hh.2⟩
theorem lv_append (a : List (Int × List Int)) (i : Int) (l : List Int) : lv (a ++ [(i, l)]) = lv a ++ [(i, .agg (bys l).toArray)] := by simp [lv]
theorem dNow_put (s y : Nat) (now bs : List Int) : (dNow s now).put s y (bys bs) = dNow s (splice now y bs) := by
  unfold dNow
  rw [Hl.one_put, ← splice_bys]
theorem now_get {D : DM} (h : D.ok) {i : Int} (hi : D.has i = true) (s : Nat) : ∀ j z, (D.sector i)[j]? = some z → (dNow s D.now).cell s (64 * i.toNat + j) = some (.int .u8 z) := by
  intro j z hz
  have hl := sector_length h hi
  have hj : j < 64 := by have := (List.getElem?_eq_some_iff.1 hz).1; omega
  rw [now_cell, ← sector_get h hi hj, hz]; rfl
theorem writeG_ok {rdP : Hl → Value → List Int → Prop} (hw : ∀ {R u bs}, rdP R u bs → RdW R u bs) : (writeG rdP).OK Tryd.prog := by
  refine Spec.of_fn (Γ := []) (fun _ h => by cases h) ?_
  rintro xs Hs Rs hl1 hl2 ⟨p, i, u, bs, H, R, D, rfl, rfl, rfl, ⟨a, s, m, es, clock, rfl, h⟩, hRd⟩
  obtain ⟨x, y, cp, rfl, hy, hR⟩ := hw hRd
  refine ⟨writeW, dEnv a s m D [i, x, y, bs.length, cp] es clock R, fun _ _ => True, fun _ _ => 0, ?_, dEntry2 h _ rfl _ _, (fun _ h => nomatch h), ?_⟩
  · show [Value.pointer (slP (a : Int) 0), Value.int .i64 i, Value.slice (slP x y) ((bs.length : Int)).toNat ((cp : Int)).toNat] = _
    rw [dArg, Int.toNat_natCast, Int.toNat_natCast]
  · show Nd.holds _ _ _ writeNd
    generalize hρ : dEnv a s m D [i, x, y, bs.length, cp] es clock R = ρ
    have v0 : ρ.i 0 = a := by rw [← hρ]; rfl
    have v1 : ρ.i 1 = i := by rw [← hρ]; rfl
    have v2 : ρ.i 2 = x := by rw [← hρ]; rfl
    have v3 : ρ.i 3 = y := by rw [← hρ]; rfl
    have v4 : ρ.i 4 = bs.length := by rw [← hρ]; rfl
    have v6 : ρ.i 6 = s := by rw [← hρ]; rfl
    have v7 : ρ.i 7 = 0 := by rw [← hρ]; rfl
    have v8 : ρ.i 8 = D.n := by rw [← hρ]; rfl
    have v9 : ρ.i 9 = D.n := by rw [← hρ]; rfl
    have v10 : ρ.i 10 = m := by rw [← hρ]; rfl
    have v11 : ρ.i 11 = D.fuse := by rw [← hρ]; rfl
    have vb : ρ.b 12 = D.gone := by rw [← hρ]; rfl
    have vh : ρ.h 13 = dNow s D.now := by rw [← hρ]; rfl
    have vm : ρ.h 14 = Hl.one m (.map es clock) := by rw [← hρ]; rfl
    have vr : ρ.h 15 = R := by rw [← hρ]; rfl
    have hI : ∀ q, Agree 16 ρ q → ∀ k, k < 16 → q.i k = ρ.i k := fun q g => g.i
    have ent : DiskAt H (.pointer (some ⟨a, 0, none⟩)) D := ⟨a, s, m, es, clock, rfl, h⟩
    have out : ∀ (q : Env) (f g : E) (k1 k2 : Nat) (t : Mem) (ts : List E) (v1 v2 : List Nat) (c : Int) (D' : DM) (es' : Array MapEntry) (clock' : Nat), Agree 16 ρ q → writeR D i bs = (c, D') → D'.ok → D'.n = D.n → (MapIs .i64 es' (lv D'.loose) ∧ MapKept.Stamped es' clock') → iev q f = D'.fuse → bev q g = D'.gone → q.h k1 = dNow s D'.now → q.h k2 = Hl.one m (.map es' clock') →
        postOf (writeG rdP) [.pointer (some ⟨a, 0, none⟩), .int .i64 i, .slice (slP x y) bs.length cp] [H] [R] q
          (.blk 0 [.sl (.var 6) (.var 7) (.var 8) (.var 9), .map (.var 10), .int .i64 f, .bool g] 66 :: .hp k1 v1 [.var 6] [] :: .hp k2 v2 [.var 10] [] :: t) (.sv (.one (.int .i64 (.lit c)))) := by
      intro q f g k1 k2 t ts w1 w2 c D' es' clock' hq hw hok hn hm hf hg h1 h2 _
      refine ⟨[[0, 1, 2]], [], rfl, rfl, ⟨⟨fun _ => c, fun _ => false, fun _ => .empty, fun _ => .tuple #[], fun _ => Hl.none⟩, rfl, trivial, trivial⟩, _, i, _, bs, H, R, D, _, rfl, rfl, rfl, ent, hRd, rfl, ⟨a, s, m, es', clock', rfl, ?_⟩, by rw [hw]; rfl⟩
      rw [hw]
      refine dExit hok hm.1 hm.2 h.nas h.nam h.nsm (dBlk ?_ ?_ ?_ ?_ ?_ ?_ hf hg) h1 h2
      · rw [hq.i 0 (by omega), v0]
      · rw [hq.i 6 (by omega), v6]
      · rw [hq.i 7 (by omega), v7]
      · rw [hq.i 8 (by omega), v8]; show (D.n : Int) = (D'.n : Int); rw [hn]
      · rw [hq.i 9 (by omega), v9]; show (D.n : Int) = (D'.n : Int); rw [hn]
      · rw [hq.i 10 (by omega), v10]
    have tail : ∀ f : E, (∀ q, Agree 16 ρ q → iev q f = if 0 < D.fuse then D.fuse - 1 else D.fuse) → D.has i = true → bs.length = 64 → D.gone = false → D.fuse ≠ 0 → (writeTail f).holds ⟨[], fun _ _ => True, fun _ _ => 0, postOf (writeG rdP) [.pointer (some ⟨a, 0, none⟩), .int .i64 i, .slice (slP x y) bs.length cp] [H] [R]⟩ (fun _ => 0) ρ := by
      intro f hf hi hb hg hz
      have hh : 0 ≤ i ∧ i < D.n := by unfold DM.has at hi; simpa using hi
      have hw : writeR D i bs = (0, putD D i bs) := by
        unfold writeR
        rw [if_neg (by rw [hi, hb]; simp), if_neg (by rw [hg]; simp), if_neg hz]
      have hx : 0 ≤ x ∧ ∀ j z, bs[j]? = some z → R.cell x.toNat (y.toNat + j) = some (.int .u8 z) := by
        rcases hR with h | h
        · rw [h] at hb; cases hb
        · exact h
      have hpok := putD_ok h.ok hi hb
      have hsl := sector_length h.ok hi
      unfold writeTail
      simp only [Nd.holds, X.pre, X.rel, X.n, Src.ok, Src.len, Src.vals, true_and, and_true, if_true, Nat.mul_one, Nat.add_zero, Nat.reduceAdd, List.length_cons, List.length_nil, bT_tt, bT_ff, bT_bvar, bT_not, bT_and, bT_or, bT_ite, bT_lt, bT_le, bT_eq, bT_beq, bT_seq, bT_hB, bT_his, bT_hby, bT_hism, bT_hks, iev_lit, iev_var, iev_add, iev_sub, iev_mul, iev_wrap, iev_ite, iev_hI, iev_hP, iev_hmlen, sev_ite, sev_slit, sev_sof, sev_svar, TV.ev, SV.ev, CV.ev, List.map_cons, List.map_nil, Res.hl]
      rw [v10, v1, vm]
      have hmem : (Hl.one m (.map es clock)) ((m : Int)).toNat = some (.map es clock) := by rw [Int.toNat_natCast]; exact Hl.one_self _ _
      refine ⟨⟨by omega, es, clock, _, hmem, mapFind_int h.map i, ?_⟩, fun q1 g1 hq1 q2 g2 _ => ?_⟩
      · intro j v hv
        obtain ⟨_, hv⟩ := mapGo_some hv
        unfold lv at hv
        rw [List.getElem?_map, Option.map_eq_some_iff] at hv
        obtain ⟨p, hp, he⟩ := hv
        cases he
        have := (h.ok.loose p (List.mem_of_getElem? hp)).1
        refine ⟨_, rfl, ?_⟩
        show (bys p.2).map ckOf = _
        rw [ckOf_bys, this]
      · obtain ⟨_, hb80⟩ := hq1 es clock _ hmem (mapFind_int h.map i)
        have hb80 : q1.b 80 = (mapGo i (lv D.loose) 0).isSome := hb80
        have e80 : q2.b 80 = (mapGo i (lv D.loose) 0).isSome := by rw [g2.b 80 (by omega), hb80]
        have g12 : Agree 16 ρ q2 := g1.trans (g2.mono (by omega))
        have hby : ∀ q, Agree 16 ρ q → cellBytes (q.h 15) (q.i 2).toNat (q.i 3).toNat (Int.toNat 64) = true := by
          intro q g
          rw [g.h 15 (by omega), g.i 2 (by omega), g.i 3 (by omega), vr, v2, v3]
          exact cells_bytes hx.2 (by rw [hb]; decide)
        have hcs : ∀ q, Agree 16 ρ q → (romCells 15 (.var 2) (.var 3) 0 (List.replicate 64 (Kd.int .u8))).map (CV.ev q) = bys bs := by
          intro q g
          refine romCells_ev 64 0 bs hb fun j z hz => ?_
          rw [g.h 15 (by omega), iev_var, iev_var, g.i 2 (by omega), g.i 3 (by omega), vr, v2, v3, Nat.zero_add]
          exact hx.2 j z hz
        have hat : ∀ q, Agree 16 ρ q → (q.i 7 + q.i 1 * 64).toNat = 64 * i.toNat := by
          intro q g
          rw [g.i 7 (by omega), g.i 1 (by omega), v7, v1]; omega
        have hwr : ∀ q, Agree 16 ρ q → 0 ≤ q.i 6 ∧ 0 ≤ q.i 7 + q.i 1 * 64 ∧ (q.h 13).wr (q.i 6).toNat (q.i 7 + q.i 1 * 64).toNat (romCells 15 (.var 2) (.var 3) 0 (List.replicate 64 (Kd.int .u8))).length = true := by
          intro q g
          have := hat q g
          refine ⟨by rw [g.i 6 (by omega), v6]; omega, by rw [g.i 7 (by omega), g.i 1 (by omega), v7, v1]; omega, ?_⟩
          rw [this, g.h 13 (by omega), g.i 6 (by omega), vh, v6, romCells_length, List.length_replicate, Int.toNat_natCast]
          exact Hl.one_wr _ _ _ _ _ (by rw [List.size_toArray, bys_length, h.ok.now]; omega)
        have hput : ∀ q, Agree 16 ρ q → (q.h 13).put (q.i 6).toNat (q.i 7 + q.i 1 * 64).toNat (bys bs) = dNow s (putD D i bs).now := by
          intro q g
          rw [hat q g, g.h 13 (by omega), g.i 6 (by omega), vh, v6, Int.toNat_natCast, dNow_put]
          rfl
        have n2 : ∀ q, Agree 16 ρ q → 0 ≤ q.i 2 ∧ 0 ≤ q.i 3 ∧ 0 ≤ q.i 6 ∧ 0 ≤ q.i 7 := by
          intro q g
          rw [g.i 2 (by omega), g.i 3 (by omega), g.i 6 (by omega), g.i 7 (by omega), v2, v3, v6, v7]
          exact ⟨hx.1, hy, by omega, by omega⟩
        refine ⟨fun hnb => ?_, fun hyb => ?_⟩
        · have hnone : mapGo i (lv D.loose) 0 = none := by
            rw [e80] at hnb
            cases hgo : mapGo i (lv D.loose) 0 with
            | none => rfl
            | some v => rw [hgo] at hnb; simp at hnb
          obtain ⟨es', hmp, hmi, hmst⟩ := mapPut_st h.map hnone (.agg (bys (D.sector i)).toArray) h.st
          have c13 : cellBytes (q2.h 13) (q2.i 6).toNat (q2.i 7 + q2.i 1 * 64).toNat (Int.toNat 64) = true := by
            rw [hat q2 g12, g12.h 13 (by omega), g12.i 6 (by omega), vh, v6, Int.toNat_natCast]
            exact cells_bytes (now_get h.ok hi s) (by rw [hsl]; decide)
          have hsec : (romCells 13 (.var 6) (.add (.var 7) (.mul (.var 1) (.lit 64))) 0 (List.replicate 64 (Kd.int .u8))).map (CV.ev q2) = bys (D.sector i) := by
            refine romCells_ev 64 0 _ hsl fun j z hz => ?_
            simp only [iev_add, iev_mul, iev_var, iev_lit]
            rw [hat q2 g12, g12.h 13 (by omega), g12.i 6 (by omega), vh, v6, Int.toNat_natCast, Nat.zero_add]
            exact now_get h.ok hi s j z hz
          have hm2 : q2.h 14 (q2.i 10).toNat = some (.map es clock) := by
            rw [g12.h 14 (by omega), g12.i 10 (by omega), vm, v10]; exact hmem
          refine ⟨(n2 q2 g12).2.2.1, (n2 q2 g12).2.2.2, c13, ⟨by rw [g12.i 10 (by omega), v10]; omega, es, clock, _, hm2, mapFind_int h.map _⟩, fun q3 g3 hq3 => ?_⟩
          have g13 : Agree 16 ρ q3 := g12.trans (g3.mono (by omega))
          have h82 := hq3 es clock hm2
          rw [hsec, g12.i 1 (by omega), v1, hmp, g12.h 14 (by omega), g12.i 10 (by omega), vm, v10, Int.toNat_natCast, Hl.one_setObj] at h82
          refine ⟨(n2 q3 g13).1, (n2 q3 g13).2.1, hby q3 g13, hwr q3 g13, fun q4 g4 hq4 => ?_⟩
          have g14 : Agree 16 ρ q4 := g13.trans (g4.mono (by omega))
          rw [hcs q3 g13, hput q3 g13] at hq4
          refine out q4 _ _ _ _ _ [] _ _ 0 (putD D i bs) es' (clock + 1) g14 hw hpok rfl ?_ (hf q4 g14) (by rw [bev_bvar, g14.b 12 (by omega), vb, hg]; rfl) hq4 (by rw [g4.h 82 (by omega), h82])
          have el : (putD D i bs).loose = D.loose ++ [(i, D.sector i)] := by
            show (if (mapGo i (lv D.loose) 0).isSome then D.loose else D.loose ++ [(i, D.sector i)]) = _
            rw [hnone]; rfl
          rw [el, lv_append]
          exact ⟨hmi, hmst⟩
        · have el : (putD D i bs).loose = D.loose := by
            show (if (mapGo i (lv D.loose) 0).isSome then D.loose else D.loose ++ [(i, D.sector i)]) = _
            rw [← e80, hyb]; rfl
          refine ⟨(n2 q2 g12).1, (n2 q2 g12).2.1, hby q2 g12, (n2 q2 g12).2.2.1, (n2 q2 g12).2.2.2, hwr q2 g12, fun q3 g3 hq3 => ?_⟩
          have g13 : Agree 16 ρ q3 := g12.trans (g3.mono (by omega))
          rw [hcs q2 g12, hput q2 g12] at hq3
          exact out q3 _ _ _ _ _ [] _ _ 0 (putD D i bs) es clock g13 hw hpok rfl (by rw [el]; exact ⟨h.map, h.st⟩) (hf q3 g13) (by rw [bev_bvar, g13.b 12 (by omega), vb, hg]; rfl) hq3 (by rw [g13.h 14 (by omega), vm])
    unfold writeNd
    simp only [Nd.holds, X.pre, X.rel, X.n, Src.ok, Src.len, Src.vals, true_and, and_true, if_true, Nat.mul_one, Nat.add_zero, Nat.reduceAdd, List.length_cons, List.length_nil, bT_tt, bT_ff, bT_bvar, bT_not, bT_and, bT_or, bT_ite, bT_lt, bT_le, bT_eq, bT_beq, bT_seq, bT_hB, bT_his, bT_hby, bT_hism, bT_hks, iev_lit, iev_var, iev_add, iev_sub, iev_mul, iev_wrap, iev_ite, iev_hI, iev_hP, iev_hmlen, sev_ite, sev_slit, sev_sof, sev_svar, TV.ev, SV.ev, CV.ev, List.map_cons, List.map_nil, Res.hl]
    rw [v1, v4, v8, v11, vb]
    have bad : ∀ c : Int, writeR D i bs = (c, D) → postOf (writeG rdP) [.pointer (some ⟨a, 0, none⟩), .int .i64 i, .slice (slP x y) bs.length cp] [H] [R] ρ
          (.blk 0 [.sl (.var 6) (.var 7) (.var 8) (.var 9), .map (.var 10), .int .i64 (.var 11), .bool (.bvar 12)] 66 :: .hp 13 [] [.var 6] [] :: .hp 14 [] [.var 10] [] :: [.ro 15 [.var 2] false]) (.sv (.one (.int .i64 (.lit c)))) := fun c hc =>
      out ρ _ _ _ _ _ [] _ _ c D es clock (Agree.refl _ _) hc h.ok rfl ⟨h.map, h.st⟩ (by rw [iev_var, v11]) (by rw [bev_bvar, vb]) vh vm
    have yes : 0 ≤ i → i < D.n → D.has i = true := fun h0 h1 => by unfold DM.has; simp [h0, h1]
    refine ⟨fun h0 => ⟨by omega, fun hn => ⟨by omega, fun hb => bad 1 ?_, fun hb => ⟨fun hg => ⟨fun hz => ?_, fun hz => ⟨fun hp => ?_, fun hp => ?_⟩⟩, fun hg => bad 5 ?_⟩⟩, fun hn => bad 1 ?_⟩, fun h0 => bad 1 ?_⟩
    · unfold writeR; rw [if_pos (Or.inr (by omega))]
    · have hw : writeR D i bs = (5, { D with gone := true }) := by
        unfold writeR; rw [if_neg (by rw [yes h0 hn]; simp; omega), if_neg hg, if_pos hz]
      exact out ρ _ _ _ _ _ [] _ _ 5 { D with gone := true } es clock (Agree.refl _ _) hw ⟨h.ok.now, h.ok.n, h.ok.f0, h.ok.f1, h.ok.loose⟩ rfl ⟨h.map, h.st⟩ (by rw [iev_var, v11]) (by rw [bev_tt]) vh vm
    · refine tail _ (fun q g => ?_) (yes h0 hn) (by omega) (by simpa using hg) hz
      have := h.ok.f1
      rw [iev_wrap, iev_sub, iev_var, iev_lit, g.i 11 (by omega), v11, if_pos hp, wrap_i64 (by omega) (by omega)]
    · refine tail _ (fun q g => ?_) (yes h0 hn) (by omega) (by simpa using hg) hz
      rw [iev_var, g.i 11 (by omega), v11, if_neg hp]
    · unfold writeR; rw [if_neg (by rw [yes h0 hn]; simp; omega), if_pos hg]
    · unfold writeR DM.has; rw [if_pos (Or.inl (by simp only [decide_eq_false_iff_not]; omega))]
    · unfold writeR DM.has; rw [if_pos (Or.inl (by simp only [decide_eq_false_iff_not]; omega))]
theorem writeS_ok : writeS.OK Tryd.prog := writeG_ok fun h => h.w
def writeWS : Sx.Spec := writeG RdW
theorem writeWS_ok : writeWS.OK Tryd.prog := writeG_ok fun h => h
end Go.Proofs.YtomdimlnggpgbaaDoor.D
namespace Go.Proofs.YtomdimlnggpgbaaDoor.D
open Go Go.Sx
def syncR (D : DM) : Int × DM := if D.gone then (5, D) else if D.fuse = 0 then (5, { D with gone := true }) else (0, ⟨D.n, D.now, [], if 0 < D.fuse then D.fuse - 1 else D.fuse, D.gone⟩)
theorem dOut {H : Hl} {a s m : Nat} {es es' : Array MapEntry} {clock clock' : Nat} {D D' : DM} {x1 x2 x3 x4 x5 : Int} {R : Hl} (h : DiskIn H a s m es clock D) {q : Env} (hq : Agree 15 (dEnv a s m D [x1, x2, x3, x4, x5] es clock R) q) {f g : E} {k1 k2 : Nat} {v1 v2 : List Nat} {t : Mem}
    (hok : D'.ok) (hn : D'.n = D.n) (hm : MapIs .i64 es' (lv D'.loose)) (hst : MapKept.Stamped es' clock') (hf : iev q f = D'.fuse) (hg : bev q g = D'.gone) (h1 : q.h k1 = dNow s D'.now) (h2 : q.h k2 = Hl.one m (.map es' clock')) :
    DiskAt (uni q (.blk 0 [.sl (.var 6) (.var 7) (.var 8) (.var 9), .map (.var 10), .int .i64 f, .bool g] 66 :: .hp k1 v1 [.var 6] [] :: .hp k2 v2 [.var 10] [] :: t) [0, 1, 2]) (.pointer (some ⟨a, 0, none⟩)) D' := by
  refine ⟨a, s, m, es', clock', rfl, dExit hok hm hst h.nas h.nam h.nsm (dBlk (hq.i 0 (by omega)) (hq.i 6 (by omega)) (hq.i 7 (by omega)) ?_ ?_ (hq.i 10 (by omega)) hf hg) h1 h2⟩
  · rw [hq.i 8 (by omega)]; show (D.n : Int) = (D'.n : Int); rw [hn]
  · rw [hq.i 9 (by omega)]; show (D.n : Int) = (D'.n : Int); rw [hn]
def syncS : Sx.Spec where
  fn := 106
  own := [.arg 0]
  rd := []
  res := [.one (.int .i64)]
  pre := fun xs Hs Rs => ∃ p H D, xs = [p] ∧ Hs = [H] ∧ DiskAt H p D
  post := fun xs Hs Rs v Hs' F => ∃ p H D H', xs = [p] ∧ Hs = [H] ∧ DiskAt H p D ∧ Hs' = [H'] ∧ DiskAt H' p (syncR D).2 ∧ v = .int .i64 (syncR D).1
def syncNd : Nd := .and (.imp (.not (.bvar 12)) (.and (.imp (.eq (.var 11) (.lit 0)) (.post [.blk 0 [.sl (.var 6) (.var 7) (.var 8) (.var 9), .map (.var 10), .int .i64 (.var 11), .bool .tt] 66, .hp 13 [] [.var 6] [], .hp 14 [] [.var 10] []] (.sv (.one (.int .i64 (.lit 5)))))) (.imp (.not (.eq (.var 11) (.lit 0))) (.and (.imp (.lt (.lit 0) (.var 11)) (.and (.pre (.mclr 15 14 (.var 10))) (.ext (.mclr 15 14 (.var 10)) (.post [.blk 0 [.sl (.var 6) (.var 7) (.var 8) (.var 9), .map (.var 10), .int .i64 (.wrap .i64 (.sub (.var 11) (.lit 1))), .bool (.bvar 12)] 66, .hp 13 [] [.var 6] [], .hp 15 [14] [.var 10] []] (.sv (.one (.int .i64 (.lit 0)))))))) (.imp (.not (.lt (.lit 0) (.var 11))) (.and (.pre (.mclr 15 14 (.var 10))) (.ext (.mclr 15 14 (.var 10)) (.post [.blk 0 [.sl (.var 6) (.var 7) (.var 8) (.var 9), .map (.var 10), .int .i64 (.var 11), .bool (.bvar 12)] 66, .hp 13 [] [.var 6] [], .hp 15 [14] [.var 10] []] (.sv (.one (.int .i64 (.lit 0)))))))))))) (.imp (.bvar 12) (.post [.blk 0 [.sl (.var 6) (.var 7) (.var 8) (.var 9), .map (.var 10), .int .i64 (.var 11), .bool (.bvar 12)] 66, .hp 13 [] [.var 6] [], .hp 14 [] [.var 10] []] (.sv (.one (.int .i64 (.lit 5))))))
def syncW : Walk Tryd.prog [] syncS.fn where
  Λ := noLoops
  args := [TP (.var 0) (.lit 0)]
  mem := dMem
  nv := 15
  nd := syncNd
  ok := by kernel_rfl
theorem syncS_ok : syncS.OK Tryd.prog := by
  refine Spec.of_fn (Γ := []) (fun _ h => by cases h) ?_
  rintro xs Hs Rs hl1 hl2 ⟨p, H, D, rfl, rfl, a, s, m, es, clock, rfl, h⟩
  have e1 : Rs = [] := List.length_eq_zero_iff.1 hl2
  subst e1
  refine ⟨syncW, dEnv a s m D [0, 0, 0, 0, 0] es clock Hl.none, fun _ _ => True, fun _ _ => 0, ?_, dEntry h _ rfl _, (fun _ h => nomatch h), ?_⟩
  · show [Value.pointer (slP (a : Int) 0)] = _; rw [dArg]
  · show Nd.holds _ _ _ syncNd
    unfold syncNd
    simp only [Nd.holds, X.pre, X.rel, X.n, Src.ok, Src.len, Src.vals, true_and, and_true, if_true, Nat.mul_one, Nat.add_zero, Nat.reduceAdd, List.length_cons, List.length_nil, bT_tt, bT_ff, bT_bvar, bT_not, bT_and, bT_or, bT_ite, bT_lt, bT_le, bT_eq, bT_beq, bT_seq, bT_hB, bT_his, bT_hby, bT_hism, bT_hks, iev_lit, iev_var, iev_add, iev_sub, iev_mul, iev_wrap, iev_ite, iev_hI, iev_hP, iev_hmlen, sev_ite, sev_slit, sev_sof, sev_svar, TV.ev, SV.ev, CV.ev, List.map_cons, List.map_nil, Res.hl]
    generalize hρ : dEnv a s m D [0, 0, 0, 0, 0] es clock Hl.none = ρ
    have v10 : ρ.i 10 = m := by rw [← hρ]; rfl
    have v11 : ρ.i 11 = D.fuse := by rw [← hρ]; rfl
    have vb : ρ.b 12 = D.gone := by rw [← hρ]; rfl
    have vh : ρ.h 13 = dNow s D.now := by rw [← hρ]; rfl
    have vm : ρ.h 14 = Hl.one m (.map es clock) := by rw [← hρ]; rfl
    have out : ∀ (q : Env) (f g : E) (k1 k2 : Nat) (w1 w2 : List Nat) (t : Mem) (c : Int) (D' : DM) (es' : Array MapEntry) (clock' : Nat), Agree 15 ρ q → syncR D = (c, D') → D'.ok → D'.n = D.n → MapIs .i64 es' (lv D'.loose) → MapKept.Stamped es' clock' → iev q f = D'.fuse → bev q g = D'.gone → q.h k1 = dNow s D'.now → q.h k2 = Hl.one m (.map es' clock') →
        postOf syncS [.pointer (some ⟨a, 0, none⟩)] [H] [] q (.blk 0 [.sl (.var 6) (.var 7) (.var 8) (.var 9), .map (.var 10), .int .i64 f, .bool g] 66 :: .hp k1 w1 [.var 6] [] :: .hp k2 w2 [.var 10] [] :: t) (.sv (.one (.int .i64 (.lit c)))) := by
      intro q f g k1 k2 w1 w2 t c D' es' clock' hq hs hok hn hm hst hf hg h1 h2 _
      rw [← hρ] at hq
      refine ⟨[[0, 1, 2]], [], rfl, rfl, ⟨⟨fun _ => c, fun _ => false, fun _ => .empty, fun _ => .tuple #[], fun _ => Hl.none⟩, rfl, trivial, trivial⟩, _, H, D, _, rfl, rfl, ⟨a, s, m, es, clock, rfl, h⟩, rfl, ?_, by rw [hs]; rfl⟩
      rw [hs]
      exact dOut h hq hok hn hm hst hf hg h1 h2
    have hmem : (Hl.one m (.map es clock)) ((m : Int)).toNat = some (.map es clock) := by rw [Int.toNat_natCast]; exact Hl.one_self _ _
    have tail : ∀ (f : E), (∀ q, Agree 15 ρ q → iev q f = if 0 < D.fuse then D.fuse - 1 else D.fuse) → D.gone = false → D.fuse ≠ 0 → (0 ≤ ρ.i 10 ∧ ∃ es clock, ρ.h 14 (ρ.i 10).toNat = some (.map es clock)) ∧ ∀ ρ', Agree 15 ρ ρ' → (∀ es clock, ρ.h 14 (ρ.i 10).toNat = some (.map es clock) → ρ'.h 15 = (ρ.h 14).setObj (ρ.i 10).toNat (.map #[] clock)) →
        postOf syncS [.pointer (some ⟨a, 0, none⟩)] [H] [] ρ' [.blk 0 [.sl (.var 6) (.var 7) (.var 8) (.var 9), .map (.var 10), .int .i64 f, .bool (.bvar 12)] 66, .hp 13 [] [.var 6] [], .hp 15 [14] [.var 10] []] (.sv (.one (.int .i64 (.lit 0)))) := by
      intro f hf hg hz
      rw [v10, vm]
      refine ⟨⟨by omega, es, clock, hmem⟩, fun q gq hq => ?_⟩
      have hq := hq es clock hmem
      rw [Int.toNat_natCast, Hl.one_setObj] at hq
      refine out q f (.bvar 12) 13 15 _ _ _ 0 ⟨D.n, D.now, [], if 0 < D.fuse then D.fuse - 1 else D.fuse, D.gone⟩ #[] clock gq ?_ ⟨h.ok.now, h.ok.n, ?_, ?_, fun p hp => by cases hp⟩ rfl rfl (MapKept.stamped_empty _) (hf q gq) (by rw [bev_bvar, gq.b 12 (by omega), vb]) (by rw [gq.h 13 (by omega), vh]) hq
      · unfold syncR; rw [if_neg (by rw [hg]; simp), if_neg hz]
      · have := h.ok.f0; show -1 ≤ (if 0 < D.fuse then D.fuse - 1 else D.fuse); split <;> omega
      · have := h.ok.f1; show (if 0 < D.fuse then D.fuse - 1 else D.fuse) ≤ _; split <;> omega
    rw [vb, v11]
    have f0 := h.ok.f0
    have f1 := h.ok.f1
    refine ⟨fun hg => ⟨fun hz => ?_, fun hz => ⟨fun hp => tail _ (fun q gq => ?_) (Bool.eq_false_iff.2 hg) hz, fun hp => tail _ (fun q gq => ?_) (Bool.eq_false_iff.2 hg) hz⟩⟩, fun hg => ?_⟩
    · refine out ρ _ _ _ _ _ _ _ 5 { D with gone := true } es clock (Agree.refl _ _) ?_ ⟨h.ok.now, h.ok.n, h.ok.f0, h.ok.f1, h.ok.loose⟩ rfl h.map h.st (by rw [iev_var, v11]) (bev_tt _) vh vm
      unfold syncR; rw [if_neg hg, if_pos hz]
    · rw [if_pos hp, iev_wrap, iev_sub, iev_var, iev_lit, gq.i 11 (by omega), v11]
      exact wrap_i64 (by omega) (by omega)
    · rw [if_neg hp, iev_var, gq.i 11 (by omega), v11]
    · refine out ρ _ _ _ _ _ _ _ 5 D es clock (Agree.refl _ _) ?_ h.ok rfl h.map h.st (by rw [iev_var, v11]) (by rw [bev_bvar, vb]) vh vm
      unfold syncR; rw [if_pos hg]
def intsOf (v : Value) : List Int := (cellsV v).map fun c => valI (some c)
theorem intsOf_bys (l : List Int) : intsOf (.agg (bys l).toArray) = l := by
  show ((l.map (Value.int .u8)).map fun c => valI (some c)) = l
  rw [List.map_map]
  exact List.map_id l
theorem rowOK_bys : ∀ (n : Nat) (l : List Int), l.length = n → rowOK (bys l) ((List.replicate n (Ck.int .u8)).map kdOf)
  | 0, [], _ => trivial
  | n + 1, x :: l, h => ⟨by simp [valIs, kdOf], rowOK_bys n l (by simpa using h)⟩
  | 0, _ :: _, h => by simp at h
  | _ + 1, [], h => by simp at h
end Go.Proofs.YtomdimlnggpgbaaDoor.D
namespace Go.Proofs.YtomdimlnggpgbaaDoor.D
open Go Go.Sx
def bigB (n c : Int) : Int := bitsI .or .u64 (IntKind.u64.wrap (n * 2 ^ (min (Int.toNat 8) IntKind.u64.bits))) (IntKind.u64.wrap c)
def bigI (bs : List Int) : Int := bs.foldl bigB 0
theorem bigI_take (bs : List Int) (k : Nat) (h : k < bs.length) : bigI (bs.take (k + 1)) = bigB (bigI (bs.take k)) bs[k] := by
  unfold bigI
  rw [List.take_add_one, List.getElem?_eq_getElem h, List.foldl_append]; rfl
def bigS : Sx.Spec where
  fn := 105
  own := []
  rd := [0]
  res := [.one (.int .u64)]
  pre := fun xs Hs Rs => ∃ u bs R, xs = [u] ∧ Rs = [R] ∧ RdW R u bs ∧ bs.length ≤ 1000
  post := fun xs Hs Rs v Hs' F => ∃ u bs R, xs = [u] ∧ Rs = [R] ∧ RdW R u bs ∧ v = .int .u64 (bigI bs)
def bigNd : Nd := .and (.e (.le (.lit 0) (.var 2))) (.and (.inv 0 [⟨10, 0, .int .i64 (.lit 0)⟩, ⟨11, 0, .int .i64 (.lit 0)⟩] []) (.havoc 0 0 5 (.and (.imp (.lt (.var 11) (.var 2)) (.and (.e (.le (.lit 0) (.var 0))) (.and (.e (.le (.lit 0) (.var 1))) (.and (.e (.le (.lit 0) (.var 11))) (.and (.e (.his 4 (.var 0) (.add (.var 1) (.var 11)) 0 (.int .u8))) (.back 0 0 [⟨10, 0, .int .i64 (.bits .or .u64 (.shl .u64 (.var 10) (.lit 8)) (.wrap .u64 (.hI 4 (.var 0) (.add (.var 1) (.var 11)) 0)))⟩, ⟨11, 0, .int .i64 (.wrap .i64 (.add (.var 11) (.lit 1)))⟩] [])))))) (.imp (.not (.lt (.var 11) (.var 2))) (.post [.ro 4 [.var 0] false] (.sv (.one (.int .u64 (.var 10)))))))))
def bigW : Walk Tryd.prog [] bigS.fn where
  Λ := fun p => if lp p then some ⟨0, [(3, TI .u64 (.var 10)), (8, TI .i64 (.var 11))], [], 12⟩ else none
  args := [.sv (.one (.sl (.var 0) (.var 1) (.var 2) (.var 3)))]
  mem := [.ro 4 [.var 0] false]
  nv := 5
  nd := bigNd
  ok := by kernel_rfl
def bigInv (bs : List Int) (_ : Nat) (q : Env) : Prop := ∃ k : Nat, k ≤ bs.length ∧ q.i 11 = k ∧ q.i 10 = bigI (bs.take k)
theorem bigS_ok : bigS.OK Tryd.prog := by
  refine Spec.of_fn (Γ := []) (fun _ h => by cases h) ?_
  rintro xs Hs Rs hl1 hl2 ⟨u, bs, R, rfl, rfl, ⟨x, y, cp, rfl, hy, hR⟩, hlen⟩
  have e0 : Hs = [] := List.length_eq_zero_iff.1 hl1
  subst e0
  refine ⟨bigW, envI [x, y, bs.length, cp] false [Hl.none, Hl.none, Hl.none, Hl.none, R], bigInv bs, fun _ q => (bs.length - q.i 11).toNat, ?_, ⟨?_, ?_, ?_, ?_⟩, (fun _ h => nomatch h), ?_⟩
  · show [Value.slice (slP x y) ((bs.length : Int)).toNat ((cp : Int)).toNat] = _
    rw [Int.toNat_natCast, Int.toNat_natCast]
  · intro r hr ho; simp [bigW] at hr; subst hr; cases ho
  · intro r hr ho; simp [bigW] at hr; subst hr; exact ⟨R, by simp, Hl.le_refl _⟩
  · simp [bigW]
  · intro r hr; simp [bigW] at hr; subst hr; trivial
  · show Nd.holds _ _ _ bigNd
    generalize hρ : envI [x, y, bs.length, cp] false [Hl.none, Hl.none, Hl.none, Hl.none, R] = ρ
    have v0 : ρ.i 0 = x := by rw [← hρ]; rfl
    have v1 : ρ.i 1 = y := by rw [← hρ]; rfl
    have v2 : ρ.i 2 = bs.length := by rw [← hρ]; rfl
    have w4 : ρ.h 4 = R := by rw [← hρ]; rfl
    unfold bigNd
    simp only [Nd.holds, X.pre, X.rel, X.n, Src.ok, Src.len, Src.vals, true_and, and_true, if_true, Nat.mul_one, Nat.add_zero, Nat.reduceAdd, List.length_cons, List.length_nil, bT_tt, bT_ff, bT_bvar, bT_not, bT_and, bT_or, bT_ite, bT_lt, bT_le, bT_eq, bT_beq, bT_seq, bT_hB, bT_his, bT_hby, bT_hism, bT_hks, iev_lit, iev_var, iev_add, iev_sub, iev_mul, iev_wrap, iev_ite, iev_hI, iev_hP, iev_hmlen, sev_ite, sev_slit, sev_sof, sev_svar, TV.ev, SV.ev, CV.ev, List.map_cons, List.map_nil, Res.hl]
    rw [v2]
    refine ⟨by omega, ⟨0, by omega, rfl, rfl⟩, fun q g ⟨k, hk, h11, h10⟩ => ?_⟩
    rw [g.i 0 (by omega), g.i 1 (by omega), g.i 2 (by omega), g.h 4 (by omega), v0, v1, v2, w4, h11]
    refine ⟨fun hlt => ?_, fun hge => ?_⟩
    · have hk' : k < bs.length := by omega
      have hxr : 0 ≤ x ∧ ∀ j z, bs[j]? = some z → R.cell x.toNat (y.toNat + j) = some (.int .u8 z) := by
        rcases hR with h | h
        · subst h; simp at hk'
        · exact h
      have hc : R.cell x.toNat (y + k).toNat = some (.int .u8 bs[k]) := by
        rw [show (y + (k : Int)).toNat = y.toNat + k by omega]
        exact hxr.2 _ _ (List.getElem?_eq_getElem hk')
      rw [hc]
      refine ⟨hxr.1, hy, by omega, rfl, ⟨k + 1, by omega, ?_, ?_⟩, ?_⟩
      · show IntKind.i64.wrap (q.i 11 + 1) = _
        rw [h11]; exact wrap_i64 (by omega) (by omega)
      · show bigB (q.i 10) (valI ((q.h 4).cell (q.i 0).toNat (q.i 1 + q.i 11).toNat)) = _
        rw [h10, g.i 0 (by omega), g.i 1 (by omega), g.h 4 (by omega), v0, v1, w4, h11, hc, bigI_take bs k hk']
        rfl
      · show ((bs.length : Int) - IntKind.i64.wrap (q.i 11 + 1)).toNat < _
        rw [h11, wrap_i64 (by omega) (by omega)]; omega
    · have e : k = bs.length := by omega
      subst e
      rw [List.take_length] at h10
      refine fun _ => ⟨[], [], rfl, rfl, ⟨⟨fun _ => q.i 10, fun _ => false, fun _ => .empty, fun _ => .tuple #[], fun _ => Hl.none⟩, rfl, trivial, trivial⟩, _, bs, R, rfl, rfl, ⟨x, y, cp, rfl, hy, hR⟩, ?_⟩
      show Value.int .u64 (q.i 10) = _
      rw [h10]
end Go.Proofs.YtomdimlnggpgbaaDoor.D
namespace Go.Proofs.YtomdimlnggpgbaaDoor.D
open Go Go.Sx
theorem wrap_u64 {x : Int} (h0 : 0 ≤ x) (h1 : x < 18446744073709551616) : IntKind.u64.wrap x = x := by
  show Int.emod x 18446744073709551616 = x
  exact Int.emod_eq_of_lt h0 h1
theorem bigB_add {n c : Int} (n0 : 0 ≤ n) (n1 : n < 72057594037927936) (c0 : 0 ≤ c) (c1 : c < 256) : bigB n c = n * 256 + c := by
  unfold bigB
  rw [show n * 2 ^ (min (Int.toNat 8) IntKind.u64.bits) = n * 256 from rfl, wrap_u64 (by omega) (by omega), wrap_u64 c0 (by omega)]
  obtain ⟨m, rfl⟩ := Int.eq_ofNat_of_zero_le n0
  obtain ⟨d, rfl⟩ := Int.eq_ofNat_of_zero_le c0
  show IntKind.u64.wrap (((BitVec.ofInt 64 ((m : Int) * 256)) ||| (BitVec.ofInt 64 (d : Int))).toNat : Int) = _
  have e1 : (BitVec.ofInt 64 ((m : Int) * 256)).toNat = m * 256 := by
    rw [show ((m : Int) * 256) = ((m * 256 : Nat) : Int) by omega, BitVec.ofInt_natCast, BitVec.toNat_ofNat]
    exact Nat.mod_eq_of_lt (by omega)
  have e2 : (BitVec.ofInt 64 (d : Int)).toNat = d := by
    rw [BitVec.ofInt_natCast, BitVec.toNat_ofNat]
    exact Nat.mod_eq_of_lt (by omega)
  rw [BitVec.toNat_or, e1, e2]
  have e3 : m * 256 ||| d = m * 256 + d := by
    have := Nat.shiftLeft_add_eq_or_of_lt (i := 8) (b := d) (by omega) m
    rw [Nat.shiftLeft_eq] at this
    exact this.symm
  rw [e3, wrap_u64 (by omega) (by omega)]
  omega
def be8 (x : Int) : List Int := [x / 72057594037927936 % 256, x / 281474976710656 % 256, x / 1099511627776 % 256, x / 4294967296 % 256, x / 16777216 % 256, x / 65536 % 256, x / 256 % 256, x % 256]
theorem big_eight {a b c d e f g h : Int} (ha : 0 ≤ a ∧ a < 256) (hb : 0 ≤ b ∧ b < 256) (hc : 0 ≤ c ∧ c < 256) (hd : 0 ≤ d ∧ d < 256) (he : 0 ≤ e ∧ e < 256) (hf : 0 ≤ f ∧ f < 256) (hg : 0 ≤ g ∧ g < 256) (hh : 0 ≤ h ∧ h < 256) :
    bigI [a, b, c, d, e, f, g, h] = ((((((a * 256 + b) * 256 + c) * 256 + d) * 256 + e) * 256 + f) * 256 + g) * 256 + h := by
  show bigB (bigB (bigB (bigB (bigB (bigB (bigB (bigB 0 a) b) c) d) e) f) g) h = _
  have e1 : bigB 0 a = a := by rw [bigB_add (by omega) (by omega) ha.1 ha.2]; omega
  rw [e1, bigB_add (n := a) (c := b) ha.1 (by omega) hb.1 hb.2]
  rw [bigB_add (n := a * 256 + b) (c := c) (by omega) (by omega) hc.1 hc.2]
  rw [bigB_add (n := (a * 256 + b) * 256 + c) (c := d) (by omega) (by omega) hd.1 hd.2]
  rw [bigB_add (n := ((a * 256 + b) * 256 + c) * 256 + d) (c := e) (by omega) (by omega) he.1 he.2]
  rw [bigB_add (n := (((a * 256 + b) * 256 + c) * 256 + d) * 256 + e) (c := f) (by omega) (by omega) hf.1 hf.2]
  rw [bigB_add (n := ((((a * 256 + b) * 256 + c) * 256 + d) * 256 + e) * 256 + f) (c := g) (by omega) (by omega) hg.1 hg.2]
  rw [bigB_add (n := (((((a * 256 + b) * 256 + c) * 256 + d) * 256 + e) * 256 + f) * 256 + g) (c := h) (by omega) (by omega) hh.1 hh.2]
theorem big_be8 {x : Int} (h0 : 0 ≤ x) (h1 : x < 18446744073709551616) : bigI (be8 x) = x := by
  unfold be8
  rw [big_eight (by omega) (by omega) (by omega) (by omega) (by omega) (by omega) (by omega) (by omega)]
  omega
end Go.Proofs.YtomdimlnggpgbaaDoor.D
namespace Go.Proofs.YtomdimlnggpgbaaDoor.D
open Go Go.Sx
def u8s (n : Nat) : List Ck := List.replicate n (.int .u8)
def hdk : List Ck := [.int .u64, .int .u64] ++ u8s 16
def halfL (l : List Int) : List Int := be8 (l.getD 0 0) ++ be8 (l.getD 1 0) ++ (l.drop 2).take 16
def halfG (xs : List Value) : Value := match xs with
  | [v] => .agg (bys (halfL (intsOf v))).toArray
  | _ => .bool false
def halfN (xs : List Value) : Prop := match xs with
  | [v] => (0 ≤ (intsOf v).getD 0 0 ∧ (intsOf v).getD 0 0 < 18446744073709551616) ∧ 0 ≤ (intsOf v).getD 1 0 ∧ (intsOf v).getD 1 0 < 18446744073709551616
  | _ => False
def halfS : Sx.Spec := pureS 107 [.agg hdk] [.agg (u8s 32)] halfN halfG
def halfNd : Nd := .ext (.alloc 18) (.ext (.alloc 19) (.ext (.alloc 20) (.post [.dead, .dead, .dead] (.sv (.agg ([.int .u8 (.wrap .u8 (.shr .u64 (.var 0) (.lit 56))), .int .u8 (.wrap .u8 (.shr .u64 (.var 0) (.lit 48))), .int .u8 (.wrap .u8 (.shr .u64 (.var 0) (.lit 40))), .int .u8 (.wrap .u8 (.shr .u64 (.var 0) (.lit 32))), .int .u8 (.wrap .u8 (.shr .u64 (.var 0) (.lit 24))), .int .u8 (.wrap .u8 (.shr .u64 (.var 0) (.lit 16))), .int .u8 (.wrap .u8 (.shr .u64 (.var 0) (.lit 8))), .int .u8 (.wrap .u8 (.shr .u64 (.var 0) (.lit 0))), .int .u8 (.wrap .u8 (.shr .u64 (.var 1) (.lit 56))), .int .u8 (.wrap .u8 (.shr .u64 (.var 1) (.lit 48))), .int .u8 (.wrap .u8 (.shr .u64 (.var 1) (.lit 40))), .int .u8 (.wrap .u8 (.shr .u64 (.var 1) (.lit 32))), .int .u8 (.wrap .u8 (.shr .u64 (.var 1) (.lit 24))), .int .u8 (.wrap .u8 (.shr .u64 (.var 1) (.lit 16))), .int .u8 (.wrap .u8 (.shr .u64 (.var 1) (.lit 8))), .int .u8 (.wrap .u8 (.shr .u64 (.var 1) (.lit 0)))] ++ ckCVs 2 (List.replicate 16 (Ck.int .u8))))))))
def halfW : Walk Tryd.prog [] 107 where
  Λ := noLoops
  args := (cpSVs 0 [.agg hdk]).map .sv
  mem := []
  nv := 18
  nd := halfNd
  ok := by kernel_rfl
theorem wrap_u8 (x : Int) : IntKind.u8.wrap x = x % 256 := rfl
theorem shr_u64 {q : Env} {n : Nat} {x : Int} (h : q.i n = x) (h0 : 0 ≤ x) (k : Nat) : iev q (.wrap .u8 (.shr .u64 (.var n) (.lit k))) = x / 2 ^ (min k 64) % 256 := by
  rw [iev_wrap, wrap_u8, iev_shr, iev_var, h]
  show x.fdiv (2 ^ (min ((k : Int)).toNat 64)) % 256 = _
  rw [Int.toNat_natCast, Int.fdiv_eq_ediv_of_nonneg _ (Int.le_of_lt (Int.pow_pos (by omega)))]
theorem be8_ev {q : Env} {n : Nat} {x : Int} (h : q.i n = x) (h0 : 0 ≤ x) : [Value.int .u8 (iev q (.wrap .u8 (.shr .u64 (.var n) (.lit 56)))), Value.int .u8 (iev q (.wrap .u8 (.shr .u64 (.var n) (.lit 48)))), Value.int .u8 (iev q (.wrap .u8 (.shr .u64 (.var n) (.lit 40)))), Value.int .u8 (iev q (.wrap .u8 (.shr .u64 (.var n) (.lit 32)))), Value.int .u8 (iev q (.wrap .u8 (.shr .u64 (.var n) (.lit 24)))), Value.int .u8 (iev q (.wrap .u8 (.shr .u64 (.var n) (.lit 16)))), Value.int .u8 (iev q (.wrap .u8 (.shr .u64 (.var n) (.lit 8)))), Value.int .u8 (iev q (.wrap .u8 (.shr .u64 (.var n) (.lit 0))))] = (be8 x).map (Value.int .u8) := by
  have s := fun k => shr_u64 h h0 k
  have s56 : iev q (.wrap .u8 (.shr .u64 (.var n) (.lit 56))) = x / 72057594037927936 % 256 := s 56
  have s48 : iev q (.wrap .u8 (.shr .u64 (.var n) (.lit 48))) = x / 281474976710656 % 256 := s 48
  have s40 : iev q (.wrap .u8 (.shr .u64 (.var n) (.lit 40))) = x / 1099511627776 % 256 := s 40
  have s32 : iev q (.wrap .u8 (.shr .u64 (.var n) (.lit 32))) = x / 4294967296 % 256 := s 32
  have s24 : iev q (.wrap .u8 (.shr .u64 (.var n) (.lit 24))) = x / 16777216 % 256 := s 24
  have s16 : iev q (.wrap .u8 (.shr .u64 (.var n) (.lit 16))) = x / 65536 % 256 := s 16
  have s8 : iev q (.wrap .u8 (.shr .u64 (.var n) (.lit 8))) = x / 256 % 256 := s 8
  have s0 : iev q (.wrap .u8 (.shr .u64 (.var n) (.lit 0))) = x / 1 % 256 := s 0
  rw [s56, s48, s40, s32, s24, s16, s8, s0, Int.ediv_one]; rfl
set_option maxRecDepth 20000 in
theorem halfS_ok : halfS.OK Tryd.prog := by
  refine pure_of (fun t h => by cases h) halfW rfl rfl rfl (fun q _ _ => ?_) (fun q hq hN => ⟨fun _ _ => True, fun _ _ => 0, ?_⟩)
  · obtain ⟨ρ, _, _, e⟩ := row_rep (u8s 32) 0 (bys (halfL (intsOf ((SV.agg (ckCVs 0 hdk)).ev q)))) q (rowOK_bys 32 _ rfl)
    exact ⟨ρ, by show Value.agg _ = Value.agg ((ckCVs 0 (u8s 32)).map (CV.ev ρ)).toArray; rw [e]; rfl, ckNorms_pure _ _ _ (by decide), trivial⟩
  · have hN : (0 ≤ q.i 0 ∧ q.i 0 < 18446744073709551616) ∧ 0 ≤ q.i 1 ∧ q.i 1 < 18446744073709551616 := hN
    obtain ⟨⟨a0, a1⟩, b0, b1⟩ := hN
    show Nd.holds _ _ _ halfNd
    unfold halfNd
    simp only [Nd.holds, X.pre, X.rel, X.n]
    intro q1 g1 _ q2 g2 _ q3 g3 _
    have G : Agree 18 q q3 := (g1.trans (g2.mono (by omega))).trans (g3.mono (by omega))
    have e0 : q3.i 0 = q.i 0 := G.i 0 (by omega)
    have e1 : q3.i 1 = q.i 1 := G.i 1 (by omega)
    show Value.agg (List.map (CV.ev q3) (_ ++ _)).toArray = Value.agg (bys (be8 (q.i 0) ++ be8 (q.i 1) ++ (List.range 16).map fun j => q.i (2 + j))).toArray
    congr 2
    rw [List.map_append]
    unfold bys
    rw [List.map_append]
    congr 1
    · rw [List.map_append, ← be8_ev e0 a0, ← be8_ev e1 b0]; rfl
    · have := CV.agreeL (G.mono (by decide)) _ (ckCVs_upto (u8s 16) 2)
      unfold u8s at this
      rw [this]
      rfl
end Go.Proofs.YtomdimlnggpgbaaDoor.D
namespace Go.Proofs.YtomdimlnggpgbaaDoor.D
open Go Go.Sx
def headV (l : List Int) : List Value := [.int .u64 (bigI (l.take 8)), .int .u64 (bigI ((l.drop 8).take 8))] ++ bys ((l.drop 16).take 16)
def headOfG (xs : List Value) : Value := match xs with
  | [v] => .agg (headV (intsOf v)).toArray
  | _ => .bool false
def headOfS : Sx.Spec := pureS 76 [.agg (u8s 32)] [.agg hdk] (fun _ => True) headOfG
def headOfNd : Nd := .ext (.alloc 32) (.ext (.alloc 33) (.and (.pre (.call 0 34 [.sv (.one (.sl (.var 32) (.lit 0) (.lit 8) (.lit 32)))] [] [.blk 32 (ckCVs 0 (List.replicate 32 (Ck.int .u8))) 136])) (.ext (.call 0 34 [.sv (.one (.sl (.var 32) (.lit 0) (.lit 8) (.lit 32)))] [] [.blk 32 (ckCVs 0 (List.replicate 32 (Ck.int .u8))) 136]) (.and (.pre (.call 0 35 [.sv (.one (.sl (.var 32) (.lit 8) (.lit 8) (.lit 24)))] [] [.blk 32 (ckCVs 0 (List.replicate 32 (Ck.int .u8))) 136])) (.ext (.call 0 35 [.sv (.one (.sl (.var 32) (.lit 8) (.lit 8) (.lit 24)))] [] [.blk 32 (ckCVs 0 (List.replicate 32 (Ck.int .u8))) 136]) (.post [.dead, .dead] (.sv (.agg ([.int .u64 (.var 34), .int .u64 (.var 35)] ++ ckCVs 16 (List.replicate 16 (Ck.int .u8)))))))))))
def headΓ : List Sx.Spec := [bigS]
theorem headΓ_ok : ∀ t ∈ headΓ, t.OK Tryd.prog := fun t ht => by
  rw [headΓ, List.mem_singleton] at ht; subst ht; exact bigS_ok
def headOfW : Walk Tryd.prog headΓ 76 where
  Λ := noLoops
  args := (cpSVs 0 [.agg (u8s 32)]).map .sv
  mem := []
  nv := 32
  nd := headOfNd
  ok := by kernel_rfl
theorem hg0 : headΓ[0]? = some bigS := rfl
theorem hr0 : bigS.res = [.one (.int .u64)] := rfl
theorem rdBlk {a : Int} (h0 : 0 ≤ a) (vs : List Int) (o n c : Nat) (T : TypeId) (hn : o + n ≤ vs.length) : RdW (Hl.one a.toNat (.cells (bys vs).toArray T (0, 0))) (.slice (slP a (o : Int)) n c) ((vs.drop o).take n) := by
  have hl : ((vs.drop o).take n).length = n := by rw [List.length_take, List.length_drop]; omega
  refine ⟨a, o, c, by rw [hl], by omega, Or.inr ⟨h0, fun j z hz => ?_⟩⟩
  rw [Hl.one_cell, List.getElem?_toArray, bys_get, Int.toNat_natCast]
  rw [List.getElem?_take] at hz
  split at hz
  · rw [List.getElem?_drop] at hz; rw [hz]; rfl
  · cases hz
set_option maxRecDepth 20000 in
theorem headOfS_ok : headOfS.OK Tryd.prog := by
  refine pure_of headΓ_ok headOfW rfl rfl rfl (fun q _ _ => ?_) (fun q hq hN => ⟨fun _ _ => True, fun _ _ => 0, ?_⟩)
  · obtain ⟨ρ, _, _, e⟩ := row_rep hdk 0 (headV (intsOf ((SV.agg (ckCVs 0 (u8s 32))).ev q))) q ⟨by simp [valIs, kdOf], by simp [valIs, kdOf], rowOK_bys 16 _ rfl⟩
    exact ⟨ρ, by show Value.agg _ = Value.agg ((ckCVs 0 hdk).map (CV.ev ρ)).toArray; rw [e]; rfl, ckNorms_pure _ _ _ (by decide), trivial⟩
  · show Nd.holds _ _ _ headOfNd
    unfold headOfNd
    simp only [Nd.holds, X.pre, X.rel, X.n, hg0, hr0, newHs_zero, cpTV, Cp.sv, Ck.cv, cpSVs, Cp.len, Ck.len, newHs_zero, newHs_one, roots_ne, TV.ev, SV.ev, CV.ev, List.map_cons, List.map_nil, Res.hl, iev_var, iev_lit]
    intro q1 g1 a1 q2 g2 a2
    obtain ⟨L, hL⟩ : ∃ L, L = (List.range 32).map fun j => q.i j := ⟨_, rfl⟩
    have hLl : L.length = 32 := by rw [hL]; rfl
    have G2 : Agree 32 q q2 := g1.trans (g2.mono (by omega))
    have cells : ∀ q', Agree 32 q q' → List.map (CV.ev q') (ckCVs 0 (List.replicate 32 (Ck.int .u8))) = bys L := by
      intro q' g
      have := CV.agreeL (g.mono (by decide)) _ (ckCVs_upto (u8s 32) 0)
      unfold u8s at this
      rw [this, hL]; rfl
    rw [cells q2 G2]
    have p2 : 0 ≤ q2.i 32 := by rw [g2.i 32 (by omega)]; exact a1
    refine ⟨⟨_, L.take 8, _, rfl, rfl, rdBlk p2 L 0 8 32 _ (by omega), by rw [List.length_take]; omega⟩, fun q3 g3 ⟨_, ⟨u, bs, R, hx, hR, hrd, hv⟩, _⟩ => ?_⟩
    cases hx; cases hR
    have e1 := hrd.uniq (rdBlk p2 L 0 8 32 _ (by omega))
    have G3 : Agree 32 q q3 := G2.trans (g3.mono (by omega))
    rw [cells q3 G3]
    have p3 : 0 ≤ q3.i 32 := by rw [g3.i 32 (by omega)]; exact p2
    refine ⟨⟨_, (L.drop 8).take 8, _, rfl, rfl, rdBlk p3 L 8 8 24 _ (by omega), by rw [List.length_take]; omega⟩, fun q4 g4 ⟨_, ⟨u, bs2, R, hx, hR, hrd2, hv2⟩, _⟩ => ?_⟩
    cases hx; cases hR
    have e2 := hrd2.uniq (rdBlk p3 L 8 8 24 _ (by omega))
    have G4 : Agree 32 q q4 := G3.trans (g4.mono (by omega))
    simp only [Value.int.injEq, true_and] at hv hv2
    have hv : q4.i 34 = bigI (L.take 8) := by rw [g4.i 34 (by omega), hv, e1]; rfl
    have hv2 : q4.i 35 = bigI ((L.drop 8).take 8) := by rw [hv2, e2]
    show Value.agg (List.map (CV.ev q4) (_ ++ _)).toArray = Value.agg (headV ((List.range 32).map fun j => q.i j)).toArray
    rw [← hL]
    congr 2
    rw [List.map_append]
    unfold headV
    congr 1
    · show [Value.int .u64 (q4.i 34), Value.int .u64 (q4.i 35)] = _
      rw [hv, hv2]
    · have := CV.agreeL (G4.mono (by decide)) _ (ckCVs_upto (u8s 16) 16)
      unfold u8s at this
      rw [this, hL]
      rfl
end Go.Proofs.YtomdimlnggpgbaaDoor.D
namespace Go.Proofs.YtomdimlnggpgbaaDoor.D
open Go Go.Sx
structure LM where
  frm : Int
  most : Int
  serial : Int
  size : Int
  note : List Int
  over : Bool
structure LM.ok (L : LM) : Prop where
  frm : 0 ≤ L.frm ∧ L.frm ≤ 16384
  most : 0 ≤ L.most ∧ L.most ≤ 1048576
  note : L.note.length = 16
def lCells (dp sl : Value) (L : LM) : List Value := [dp, .int .i64 L.frm, .int .i64 L.most, .int .u64 L.serial, .int .u64 L.size] ++ (bys L.note ++ [sl, .bool L.over])
def LogIn (R : Hl) (a : Nat) (dp sl : Value) (L : LM) : Prop := L.ok ∧ R a = some (.cells (lCells dp sl L).toArray 81 (0, 0))
def LogRd (R : Hl) (p dp sl : Value) (L : LM) : Prop := ∃ a : Nat, p = .pointer (some ⟨a, 0, none⟩) ∧ LogIn R a dp sl L
theorem lCells_inj {dp sl dp' sl' : Value} {L L' : LM} (h1 : L.note.length = 16) (h2 : L'.note.length = 16) (h : lCells dp sl L = lCells dp' sl' L') : dp = dp' ∧ sl = sl' ∧ L = L' := by
  unfold lCells at h
  obtain ⟨ha, hb⟩ := List.append_inj h rfl
  obtain ⟨hc, hd⟩ := List.append_inj hb (by rw [bys_length, bys_length, h1, h2])
  simp only [List.cons.injEq, Value.int.injEq, Value.bool.injEq, true_and, and_true] at ha hd
  obtain ⟨e0, e1, e2, e3, e4⟩ := ha
  have e5 := bys_inj hc
  obtain ⟨x1, x2, x3, x4, x5, x6⟩ := L
  obtain ⟨y1, y2, y3, y4, y5, y6⟩ := L'
  simp only at e1 e2 e3 e4 e5 hd
  obtain ⟨e6, e7⟩ := hd
  subst e1 e2 e3 e4 e5 e7
  exact ⟨e0, e6, rfl⟩
theorem LogRd.uniq {R : Hl} {p dp sl dp' sl' : Value} {L L' : LM} (h : LogRd R p dp sl L) (h' : LogRd R p dp' sl' L') : dp = dp' ∧ sl = sl' ∧ L = L' := by
  obtain ⟨a, rfl, ho, h⟩ := h
  obtain ⟨a', he, ho', h'⟩ := h'
  simp only [Value.pointer.injEq, Option.some.injEq, Addr.mk.injEq, and_true] at he
  subst he
  rw [h] at h'
  simp only [Option.some.injEq, Obj.cells.injEq, and_true] at h'
  exact lCells_inj ho.note ho'.note (congrArg Array.toList h')
theorem LogIn.cell {R : Hl} {a : Nat} {dp sl : Value} {L : LM} (h : LogIn R a dp sl L) (j : Nat) : R.cell a j = (lCells dp sl L)[j]? := by
  unfold Hl.cell; rw [h.2]; simp
theorem LogIn.mono {R R' : Hl} {a : Nat} {dp sl : Value} {L : LM} (h : LogIn R a dp sl L) (hl : R.le R') : LogIn R' a dp sl L := ⟨h.1, hl _ _ h.2⟩
theorem LogRd.mono {R R' : Hl} {p dp sl : Value} {L : LM} (h : LogRd R p dp sl L) (hl : R.le R') : LogRd R' p dp sl L := by
  obtain ⟨a, e, h⟩ := h
  exact ⟨a, e, h.mono hl⟩
def zeros18 : List Int := List.replicate 18 0
def headI (x : List Int) : List Int := [bigI (x.take 8), bigI ((x.drop 8).take 8)] ++ (x.drop 16).take 16
def hdV (h : List Int) : List Value := [.int .u64 (h.getD 0 0), .int .u64 (h.getD 1 0)] ++ bys (h.drop 2)
def goodH (b : List Int) (most place : Int) : Prop := b.take 32 = b.drop 32 ∧ (bigI ((b.take 32).take 8)).tmod 2 = place ∧ bigI (((b.take 32).drop 8).take 8) ≤ most
instance (b : List Int) (most place : Int) : Decidable (goodH b most place) := by unfold goodH; infer_instance
def lreadR (D : DM) (frm most place : Int) : List Int × Int :=
  if (readR D (frm + place)).2 ≠ 0 then (zeros18, (readR D (frm + place)).2)
  else if goodH (readR D (frm + place)).1 most place then (headI ((readR D (frm + place)).1.take 32), 0) else (zeros18, 0)
def lreadS : Sx.Spec where
  fn := 39
  own := [.link 0 0]
  rd := [0]
  res := [.agg hdk, .one (.int .i64)]
  pre := fun xs Hs Rs => ∃ p place H R dp sl L D, xs = [p, .int .u64 place] ∧ Hs = [H] ∧ Rs = [R] ∧ LogRd R p dp sl L ∧ DiskAt H dp D ∧ (place = 0 ∨ place = 1)
  post := fun xs Hs Rs v Hs' F => ∃ p place H R dp sl L D H', xs = [p, .int .u64 place] ∧ Hs = [H] ∧ Rs = [R] ∧ LogRd R p dp sl L ∧ DiskAt H dp D ∧ Hs' = [H'] ∧ DiskAt H' dp D ∧
    v = .tuple #[.agg (hdV (lreadR D L.frm L.most place).1).toArray, .int .i64 (lreadR D L.frm L.most place).2]
def readY : E := .ite (.eq (.var 8) (.lit 32)) (.var 6) (.add (.var 6) (.lit 32))
def eqE (f g : Nat → E) : Nat → Nat → E
  | 0, j => .eq (f j) (g j)
  | n + 1, j => .and (.eq (f j) (g j)) (eqE f g n (j + 1))
theorem eqE_bev {q : Env} {f g : Nat → E} : ∀ (n j : Nat), bev q (eqE f g n j) = true ↔ ∀ i, j ≤ i → i ≤ j + n → iev q (f i) = iev q (g i)
  | 0, j => by
    unfold eqE
    rw [bT_eq]
    exact ⟨fun h i h1 h2 => by obtain rfl : i = j := by omega
                               exact h, fun h => h j (by omega) (by omega)⟩
  | n + 1, j => by
    unfold eqE
    rw [bT_and, bT_eq, eqE_bev n (j + 1)]
    refine ⟨fun ⟨h1, h2⟩ i a b => ?_, fun h => ⟨h j (by omega) (by omega), fun i a b => h i (by omega) (by omega)⟩⟩
    rcases Nat.lt_or_ge j i with h | h
    · exact h2 i (by omega) (by omega)
    · obtain rfl : i = j := by omega
      exact h1
def readEq : E := eqE (fun j => .hI 6 (.var 5) (.var 6) j) (fun j => .hI 6 (.var 5) readY j) 31 0
def lreadNd : Nd := .ext (.alloc 4) (.and (.e (.le (.lit 0) (.var 0))) (.and (.e (.his 2 (.var 0) (.lit 0) 0 .ptr)) (.and (.e (.his 2 (.var 0) (.lit 1) 0 (.int .i64))) (.and (.pre (.call 0 5 [.sv (.one (.hptr (.hP 2 (.var 0) (.lit 0) 0 0) (.hP 2 (.var 0) (.lit 0) 0 1))), .sv (.one (.int .i64 (.wrap .i64 (.add (.hI 2 (.var 0) (.lit 1) 0) (.wrap .i64 (.var 1))))))] [.hp 3 [] [.hP 2 (.var 0) (.lit 0) 0 0] []] [])) (.ext (.call 0 5 [.sv (.one (.hptr (.hP 2 (.var 0) (.lit 0) 0 0) (.hP 2 (.var 0) (.lit 0) 0 1))), .sv (.one (.int .i64 (.wrap .i64 (.add (.hI 2 (.var 0) (.lit 1) 0) (.wrap .i64 (.var 1))))))] [.hp 3 [] [.hP 2 (.var 0) (.lit 0) 0 0] []] []) (.and (.imp (.not (.eq (.var 9) (.lit 0))) (.post [.hp 5 [3] [.hP 2 (.var 0) (.lit 0) 0 0] [], .ro 2 [.var 0] false, .dead, .hp 6 [] [.var 5] []] (.tup [.agg ([.int .u64 (.lit 0), .int .u64 (.lit 0)] ++ List.replicate 16 (CV.int .u8 (.lit 0))), .one (.int .i64 (.var 9))]))) (.imp (.eq (.var 9) (.lit 0)) (.and (.e (.le (.lit (-1)) (.var 5))) (.and (.e (.le (.lit 0) (.var 6))) (.and (.e (.le (.lit 32) (.var 8))) (.and (.e (.le (.lit 0) (.var 5))) (.and (.e (.hby 6 (.var 5) (.var 6) (.lit 32))) (.and (.e (.le (.lit 32) (.var 7))) (.and (.e (.le (.var 7) (.var 8))) (.and (.e (.le (.lit 32) (.sub (.var 7) (.lit 32)))) (.and (.e (.le (.lit 0) readY)) (.and (.e (.hby 6 (.var 5) readY (.lit 32))) (.ext (.alloc 10) (.ext (.alloc 11) (.and (.pre (.call 1 12 [.sv (.agg (romCells 6 (.var 5) (.var 6) 0 (List.replicate 32 (Kd.int .u8))))] [] [])) (.ext (.call 1 12 [.sv (.agg (romCells 6 (.var 5) (.var 6) 0 (List.replicate 32 (Kd.int .u8))))] [] []) (.ext (.alloc 30) (.and (.imp (.not readEq) (.post [.hp 5 [3] [.hP 2 (.var 0) (.lit 0) 0 0] [], .ro 2 [.var 0] false, .dead, .hp 6 [] [.var 5] [], .dead, .dead, .dead] (.tup [.agg ([.int .u64 (.lit 0), .int .u64 (.lit 0)] ++ List.replicate 16 (CV.int .u8 (.lit 0))), .one (.int .i64 (.lit 0))]))) (.imp readEq (.and (.imp (.not (.eq (.rem (.var 12) (.lit 2)) (.var 1))) (.post [.hp 5 [3] [.hP 2 (.var 0) (.lit 0) 0 0] [], .ro 2 [.var 0] false, .dead, .hp 6 [] [.var 5] [], .dead, .dead, .dead] (.tup [.agg ([.int .u64 (.lit 0), .int .u64 (.lit 0)] ++ List.replicate 16 (CV.int .u8 (.lit 0))), .one (.int .i64 (.lit 0))]))) (.imp (.eq (.rem (.var 12) (.lit 2)) (.var 1)) (.and (.e (.his 2 (.var 0) (.lit 2) 0 (.int .i64))) (.and (.imp (.lt (.wrap .u64 (.hI 2 (.var 0) (.lit 2) 0)) (.var 13)) (.post [.hp 5 [3] [.hP 2 (.var 0) (.lit 0) 0 0] [], .ro 2 [.var 0] false, .dead, .hp 6 [] [.var 5] [], .dead, .dead, .dead] (.tup [.agg ([.int .u64 (.lit 0), .int .u64 (.lit 0)] ++ List.replicate 16 (CV.int .u8 (.lit 0))), .one (.int .i64 (.lit 0))]))) (.imp (.not (.lt (.wrap .u64 (.hI 2 (.var 0) (.lit 2) 0)) (.var 13))) (.post [.hp 5 [3] [.hP 2 (.var 0) (.lit 0) 0 0] [], .ro 2 [.var 0] false, .dead, .hp 6 [] [.var 5] [], .dead, .dead, .dead] (.tup [.agg (ckCVs 12 ([Ck.int .u64, Ck.int .u64] ++ List.replicate 16 (Ck.int .u8))), .one (.int .i64 (.lit 0))])))))))))))))))))))))))))))))))
def lreadΓ : List Sx.Spec := [readS, headOfS]
theorem lreadΓ_ok : ∀ t ∈ lreadΓ, t.OK Tryd.prog := fun t ht => by
  simp only [lreadΓ, List.mem_cons, List.mem_nil_iff, or_false] at ht
  rcases ht with rfl | rfl
  · exact readS_ok
  · exact headOfS_ok
def lreadW : Walk Tryd.prog lreadΓ lreadS.fn where
  Λ := noLoops
  args := [TP (.var 0) (.lit 0), TI .u64 (.var 1)]
  mem := [.hp 3 [] [.hP 2 (.var 0) (.lit 0) 0 0] [], .ro 2 [.var 0] false]
  nv := 4
  nd := lreadNd
  ok := by kernel_rfl
theorem rg0 : lreadΓ[0]? = some readS := rfl
theorem rg1 : lreadΓ[1]? = some headOfS := rfl
theorem rr0 : readS.res = [.one .sl, .one (.int .i64)] := rfl
theorem rr1 : headOfS.res = [.agg hdk] := rfl
theorem rc0 : (cpRoots 0 [Cp.one .sl, Cp.one (.int .i64)] ≠ []) = True := by simp [cpRoots, Cp.roots, Ck.root]
theorem normsW_bytes (q : Env) : ∀ (m n : Nat), ckNormsW n (List.replicate m (Ck.int .u8)) q
  | 0, _ => trivial
  | m + 1, n => ⟨trivial, normsW_bytes q m (n + 1)⟩
theorem OwB.cap {F : Hl} {e : TypeId} {x y l c : Int} {bs : List Int} (h : OwB F e (.slice (slP x y) l.toNat c.toNat) bs) (hl : 0 ≤ l) (hc : 0 ≤ c) : l ≤ c := by
  obtain ⟨_, h⟩ := h
  rcases h with ⟨h, _⟩ | ⟨g, cap, cur, h, _, hle, _⟩
  · simp only [Value.slice.injEq] at h; omega
  · simp only [Value.slice.injEq] at h; omega
theorem readR_ok {D : DM} (h : D.ok) {i : Int} (e : (readR D i).2 = 0) : D.has i = true ∧ D.gone = false ∧ (readR D i).1 = D.sector i ∧ (D.sector i).length = 64 := by
  unfold readR at e ⊢
  split at e
  · cases e
  · rename_i h1
    have h1 : D.has i = true := by simpa using h1
    rw [if_neg (by simp [h1])]
    split at e
    · cases e
    · rename_i h2
      rw [if_neg h2]
      exact ⟨h1, by simpa using h2, rfl, sector_length h h1⟩
theorem headOf_pre {x : List Int} (h : x.length = 32) : headOfS.pre [.agg (bys x).toArray] [] [] := by
  obtain ⟨c, _, _, ec⟩ := row_rep (u8s 32) 0 (bys x) ⟨fun _ => 0, fun _ => false, fun _ => .empty, fun _ => .tuple #[], fun _ => Hl.none⟩ (rowOK_bys 32 _ h)
  refine ⟨⟨c, ⟨normsW_bytes c 32 0, trivial⟩, ?_⟩, trivial⟩
  show [Value.agg (bys x).toArray] = [Value.agg ((ckCVs 0 (u8s 32)).map (CV.ev c)).toArray]
  rw [ec]
theorem lreadS_ok : lreadS.OK Tryd.prog := by
  refine Spec.of_fn (Γ := lreadΓ) lreadΓ_ok ?_
  rintro xs Hs Rs hl1 hl2 ⟨p, place, H, R, dp, sl, L, D, rfl, rfl, rfl, ⟨a, rfl, hL⟩, hD, hpl⟩
  obtain ⟨da, s, m, es, clock, rfl, hDi⟩ := hD
  refine ⟨lreadW, envI [a, place] false [Hl.none, Hl.none, R, H], fun _ _ => True, fun _ _ => 0, ?_, ⟨?_, ?_, ?_, ?_⟩, (fun _ h => nomatch h), ?_⟩
  · show [Value.pointer (slP (a : Int) 0), Value.int .u64 place] = _; rw [dArg]
  · intro r hr ho
    simp [lreadW] at hr
    rcases hr with rfl | rfl
    · exact ⟨H, by simp, Hl.le_refl _⟩
    · cases ho
  · intro r hr ho
    simp [lreadW] at hr
    rcases hr with rfl | rfl
    · cases ho
    · exact ⟨R, by simp, Hl.le_refl _⟩
  · simp [lreadW, Res.own]
  · intro r hr
    simp [lreadW] at hr
    rcases hr with rfl | rfl <;> trivial
  · show Nd.holds _ _ _ lreadNd
    generalize hρ : envI [(a : Int), place] false [Hl.none, Hl.none, R, H] = ρ
    have v0 : ρ.i 0 = a := by rw [← hρ]; rfl
    have v1 : ρ.i 1 = place := by rw [← hρ]; rfl
    have w2 : ρ.h 2 = R := by rw [← hρ]; rfl
    have w3 : ρ.h 3 = H := by rw [← hρ]; rfl
    unfold lreadNd
    simp only [Nd.holds, X.pre, X.rel, X.n, Src.ok, Src.len, Src.vals, true_and, and_true, if_true, Nat.mul_one, Nat.add_zero, Nat.reduceAdd, List.length_cons, List.length_nil, bT_tt, bT_ff, bT_bvar, bT_not, bT_and, bT_or, bT_ite, bT_lt, bT_le, bT_eq, bT_beq, bT_seq, bT_hB, bT_his, bT_hby, bT_hism, bT_hks, iev_lit, iev_var, iev_add, iev_sub, iev_mul, iev_wrap, iev_ite, iev_hI, iev_hP, iev_hmlen, sev_ite, sev_slit, sev_sof, sev_svar, TV.ev, SV.ev, CV.ev, List.map_cons, List.map_nil, Res.hl, cpTV, Cp.sv, Ck.cv, cpSVs, Cp.len, Ck.len, newHs_zero, newHs_one, roots_ne, rg0, rg1, rr0, rr1, rc0]
    intro q0 g0 _
    have hDA : DiskAt H (.pointer (some ⟨da, 0, none⟩)) D := ⟨da, s, m, es, clock, rfl, hDi⟩
    have t0 : Int.toNat 0 = 0 := rfl
    have t1 : Int.toNat 1 = 1 := rfl
    have t2 : Int.toNat 2 = 2 := rfl
    have t32 : Int.toNat 32 = 32 := rfl
    have c0 : R.cell a 0 = some (.pointer (some ⟨da, 0, none⟩)) := by rw [hL.cell]; rfl
    have c1 : R.cell a 1 = some (.int .i64 L.frm) := by rw [hL.cell]; rfl
    have c2 : R.cell a 2 = some (.int .i64 L.most) := by rw [hL.cell]; rfl
    obtain ⟨f0, f1⟩ := hL.1.frm
    obtain ⟨m0, m1⟩ := hL.1.most
    have ep : Value.pointer (slP (valP (R.cell a 0) 0) (valP (R.cell a 0) 1)) = .pointer (some ⟨da, 0, none⟩) := by rw [c0]; exact dArg da
    have ei : IntKind.i64.wrap (valI (R.cell a 1) + IntKind.i64.wrap place) = L.frm + place := by
      rw [c1]
      show IntKind.i64.wrap (L.frm + IntKind.i64.wrap place) = _
      rw [wrap_i64 (n := place) (by omega) (by omega)]
      exact wrap_i64 (by omega) (by omega)
    rw [g0.i 0 (by omega), v0, g0.h 2 (by omega), w2, g0.i 1 (by omega), v1, g0.h 3 (by omega), w3, Int.toNat_natCast, t0, t1, ep, ei]
    refine ⟨by omega, by rw [c0]; rfl, by rw [c1]; rfl, ⟨_, L.frm + place, H, D, rfl, rfl, hDA⟩, fun q1 g1 ⟨F, ⟨p', i', H', D', H2, u, hx, hH, hD', hH2, hD2, hv, hO⟩, hF, hn⟩ => ?_⟩
    cases hx
    cases hH
    have e := hD'.uniq hDA
    subst e
    obtain ⟨⟨n5, n6, n7, n8⟩, _⟩ := hn
    have n6 : 0 ≤ q1.i 6 := n6
    have n7 : 0 ≤ q1.i 7 := n7
    have n8 : 0 ≤ q1.i 8 := n8
    simp only [Value.tuple.injEq, Array.mk.injEq, List.cons.injEq, Value.int.injEq, true_and, and_true] at hv hH2
    obtain ⟨rfl, h9⟩ := hv
    have hF := hF trivial
    subst hF
    have out : ∀ (q : Env) (t : Mem) (r : TV) (h : List Int) (e : Int) (ρ2 : Env), Agree 10 q1 q → lreadR D' L.frm L.most place = (h, e) → r.ev q = (cpTV 0 lreadS.res).ev ρ2 → r.ev q = .tuple #[.agg (hdV h).toArray, .int .i64 e] →
        postOf lreadS [.pointer (some ⟨a, 0, none⟩), .int .u64 place] [H] [R] q (.hp 5 [3] [.hP 2 (.var 0) (.lit 0) 0 0] [] :: t) r := by
      intro q t r h e ρ2 hq hr h1 h2 _
      refine ⟨[[0]], [], rfl, rfl, ⟨ρ2, h1, ckNorms_pure _ _ _ (by decide), trivial, trivial⟩, _, place, H, R, _, sl, L, D', _, rfl, rfl, rfl, ⟨a, rfl, hL⟩, hDA, rfl, ?_, ?_⟩
      · show DiskAt (hls [q.h 5]) _ _
        rw [hls_one, hq.h 5 (by omega), hH2]
        exact hD2
      · rw [h2, hr]
    have zero : ∀ (q : Env) (t : Mem) (x : E) (e : Int), Agree 10 q1 q → lreadR D' L.frm L.most place = (zeros18, e) → iev q x = e →
        postOf lreadS [.pointer (some ⟨a, 0, none⟩), .int .u64 place] [H] [R] q (.hp 5 [3] [.hP 2 (.var 0) (.lit 0) 0 0] [] :: t) (.tup [.agg ([.int .u64 (.lit 0), .int .u64 (.lit 0)] ++ List.replicate 16 (CV.int .u8 (.lit 0))), .one (.int .i64 x)]) := by
      intro q t x e hq hr hx
      refine out q t _ zeros18 e ⟨fun k => if k = 18 then e else 0, fun _ => false, fun _ => .empty, fun _ => .tuple #[], fun _ => Hl.none⟩ hq hr ?_ ?_
      · subst hx; rfl
      · subst hx; rfl
    refine ⟨fun h => zero q1 _ _ _ (Agree.refl _ _) ?_ (by rw [iev_var]), fun h => ?_⟩
    · unfold lreadR
      rw [← h9, if_pos h]
    · rw [h] at h9
      obtain ⟨hh, hg, hs, hl⟩ := readR_ok hDi.ok h9.symm
      obtain ⟨b, hb⟩ : ∃ b, b = (readR D' (L.frm + place)).1 := ⟨_, rfl⟩
      rw [← hb] at hO hs
      have hbl : b.length = 64 := by rw [hs]; exact hl
      have hat := hO.rd.at n5 n6 n7
      obtain ⟨e7, hc⟩ := hat
      rw [hbl] at e7
      have hc : 0 ≤ q1.i 5 ∧ ∀ j z, b[j]? = some z → (q1.h 6).cell (q1.i 5).toNat ((q1.i 6).toNat + j) = some (.int .u8 z) := by
        rcases hc with ⟨_, hc⟩ | hc
        · rw [hc] at hbl; cases hbl
        · exact hc
      obtain ⟨p5, hc⟩ := hc
      have hcap := OwB.cap hO n7 n8
      have eY : ∀ q, Agree 10 q1 q → iev q readY = q1.i 6 + 32 := by
        intro q g
        unfold readY
        rw [iev_ite, if_neg (by rw [bT_eq, iev_var, iev_lit, g.i 8 (by omega)]; omega), iev_add, iev_var, iev_lit, g.i 6 (by omega)]
      rw [eY q1 (Agree.refl _ _), t32]
      refine ⟨n5, n6, by omega, p5, cells_bytes hc (by omega), by omega, by omega, by omega, by omega, ?_, fun q2 g2 _ q3 g3 _ => ?_⟩
      · refine cells_bytes (bs := b.drop 32) (fun j z hz => ?_) (by rw [List.length_drop]; omega)
        rw [List.getElem?_drop] at hz
        have := hc _ _ hz
        rw [show (q1.i 6 + 32).toNat + j = (q1.i 6).toNat + (32 + j) by omega]
        exact this
      have G3 : Agree 10 q1 q3 := g2.trans (g3.mono (by omega))
      have hxl : (b.take 32).length = 32 := by rw [List.length_take]; omega
      have hrom : (romCells 6 (E.var 5) (E.var 6) 0 (List.replicate 32 (Kd.int IntKind.u8))).map (CV.ev q3) = bys (b.take 32) := by
        refine romCells_ev 32 0 _ hxl fun i z hz => ?_
        rw [List.getElem?_take] at hz
        split at hz
        · rw [iev_var, iev_var, G3.h 6 (by omega), G3.i 5 (by omega), G3.i 6 (by omega), Nat.zero_add]
          exact hc _ _ hz
        · cases hz
      rw [hrom]
      refine ⟨headOf_pre hxl, fun q4 g4 ⟨F4, hp4, _, _⟩ q5 g5 _ => ?_⟩
      have hp4 : Value.agg (List.map (CV.ev q4) (ckCVs 12 hdk)).toArray = Value.agg (headV (intsOf (.agg (bys (b.take 32)).toArray))).toArray := hp4
      rw [intsOf_bys] at hp4
      have hp4 : List.map (CV.ev q4) (ckCVs 12 hdk) = headV (b.take 32) := by simpa using hp4
      have i12 : q4.i 12 = bigI ((b.take 32).take 8) := by
        have := congrArg (fun l => l[0]?) hp4
        simpa [hdk, ckCVs, Ck.cv, CV.ev, headV, iev_var] using this
      have i13 : q4.i 13 = bigI (((b.take 32).drop 8).take 8) := by
        have := congrArg (fun l => l[1]?) hp4
        simpa [hdk, ckCVs, Ck.cv, CV.ev, headV, iev_var, Ck.len] using this
      have G5 : Agree 10 q1 q5 := (G3.trans (g4.mono (by omega))).trans (g5.mono (by omega))
      have j12 : q5.i 12 = bigI ((b.take 32).take 8) := by rw [g5.i 12 (by omega), i12]
      have j13 : q5.i 13 = bigI (((b.take 32).drop 8).take 8) := by rw [g5.i 13 (by omega), i13]
      have heq : bev q5 readEq = true ↔ b.take 32 = b.drop 32 := by
        unfold readEq
        rw [eqE_bev]
        have ex : ∀ i : Nat, i ≤ 31 → iev q5 (.hI 6 (.var 5) (.var 6) i) = b.getD i 0 ∧ iev q5 (.hI 6 (.var 5) readY i) = b.getD (32 + i) 0 := by
          intro i hi
          rw [iev_hI, iev_hI, iev_var, iev_var, eY q5 G5, G5.i 5 (by omega), G5.i 6 (by omega), G5.h 6 (by omega)]
          rw [hc i _ (List.getElem?_eq_getElem (by omega)), show (q1.i 6 + 32).toNat + i = (q1.i 6).toNat + (32 + i) by omega, hc (32 + i) _ (List.getElem?_eq_getElem (by omega))]
          simp only [List.getD_eq_getElem?_getD]
          rw [List.getElem?_eq_getElem (by omega), List.getElem?_eq_getElem (by omega)]
          exact ⟨rfl, rfl⟩
        constructor
        · intro h
          apply List.ext_getElem?
          intro j
          rcases Nat.lt_or_ge j 32 with hj | hj
          · have := h j (by omega) (by omega)
            rw [(ex j (by omega)).1, (ex j (by omega)).2] at this
            rw [List.getElem?_take_of_lt hj, List.getElem?_drop, List.getElem?_eq_getElem (by omega), List.getElem?_eq_getElem (by omega)]
            simp only [List.getD_eq_getElem?_getD] at this
            rw [List.getElem?_eq_getElem (by omega), List.getElem?_eq_getElem (by omega)] at this
            exact congrArg some this
          · rw [List.getElem?_eq_none (by rw [List.length_take]; omega), List.getElem?_eq_none (by rw [List.length_drop]; omega)]
        · intro h i _ hi
          rw [(ex i (by omega)).1, (ex i (by omega)).2]
          have this : (b.take 32)[i]? = (b.drop 32)[i]? := congrArg (fun l => l[i]?) h
          rw [List.getElem?_take_of_lt (by omega), List.getElem?_drop] at this
          rw [List.getD_eq_getElem?_getD, List.getD_eq_getElem?_getD, this]
      rw [heq, iev_rem, iev_var, iev_lit, j12, j13, g5.i 1 (by omega), g4.i 1 (by omega), g3.i 1 (by omega), g2.i 1 (by omega), g1.i 1 (by omega), g0.i 1 (by omega), v1]
      rw [g5.i 0 (by omega), g4.i 0 (by omega), g3.i 0 (by omega), g2.i 0 (by omega), g1.i 0 (by omega), g0.i 0 (by omega), v0]
      rw [g5.h 2 (by omega), g4.h 2 (by omega), g3.h 2 (by omega), g2.h 2 (by omega), g1.h 2 (by omega), g0.h 2 (by omega), w2, Int.toNat_natCast, t2, c2]
      have hw : IntKind.u64.wrap (valI (some (.int .i64 L.most))) = L.most := by show IntKind.u64.wrap L.most = _; exact wrap_u64 m0 (by omega)
      rw [hw]
      have hl : lreadR D' L.frm L.most place = if goodH b L.most place then (headI (b.take 32), 0) else (zeros18, 0) := by
        unfold lreadR
        rw [if_neg (by rw [← h9]; simp), ← hb]
      refine ⟨fun h1 => zero q5 _ _ _ G5 (by rw [hl, if_neg fun h => h1 h.1]) (iev_lit _ _), fun h1 => ⟨fun h2 => zero q5 _ _ _ G5 (by rw [hl, if_neg fun h => h2 h.2.1]) (iev_lit _ _), fun h2 => ⟨rfl, fun (h3 : L.most < bigI (((b.take 32).drop 8).take 8)) => zero q5 _ _ _ G5 (by rw [hl, if_neg fun h => Int.not_le.2 h3 h.2.2]) (iev_lit _ _), fun (h3 : ¬ L.most < bigI (((b.take 32).drop 8).take 8)) => ?_⟩⟩⟩
      refine out q5 _ _ (headI (b.take 32)) 0 ⟨fun k => if k = 18 then 0 else q5.i (12 + k), fun _ => false, fun _ => .empty, fun _ => .tuple #[], fun _ => Hl.none⟩ G5 (by rw [hl, if_pos ⟨h1, h2, Int.not_lt.1 h3⟩]) ?_ ?_
      · rfl
      · show Value.tuple #[Value.agg (List.map (CV.ev q5) (ckCVs 12 hdk)).toArray, _] = _
        have e5 : List.map (CV.ev q5) (ckCVs 12 hdk) = List.map (CV.ev q4) (ckCVs 12 hdk) := CV.agreeL (g5.mono (by decide)) _ (ckCVs_upto hdk 12)
        rw [e5, hp4]
        rfl
end Go.Proofs.YtomdimlnggpgbaaDoor.D
namespace Go.Proofs.YtomdimlnggpgbaaDoor.D
open Go Go.Sx
theorem OwB.rep {F : Hl} {e : TypeId} {v : Value} {bs : List Int} (h : OwB F e v bs) : ∃ (x : Int) (c : Nat), -1 ≤ x ∧ v = .slice (slP x 0) bs.length c ∧ bs.length ≤ c ∧ ((x = -1 ∧ bs = []) ∨ (0 ≤ x ∧ ∀ j z, bs[j]? = some z → F.cell x.toNat j = some (.int .u8 z))) := by
  obtain ⟨hl, h⟩ := h
  rcases h with ⟨rfl, hn⟩ | ⟨g, cap, cur, rfl, hg, hle, hm, hs, ht⟩
  · exact ⟨-1, 0, by omega, by rw [slP_nil, hn], by omega, Or.inl ⟨rfl, List.length_eq_zero_iff.1 hn⟩⟩
  · refine ⟨g, cap, by omega, by rw [slP_pos (by omega)]; simp, hle, Or.inr ⟨by omega, fun j z hz => ?_⟩⟩
    have hj := (List.getElem?_eq_some_iff.1 hz).1
    simp only [Int.toNat_natCast, Hl.cell, hg]
    have e1 : (cur.toList.take (bs.length * 1))[j]? = some (.int .u8 z) := by rw [ht, bys_get, hz]; rfl
    rw [List.getElem?_take_of_lt (by omega), Array.getElem?_toList] at e1
    exact e1
def secA (all : List Int) (i : Nat) : List Int := (List.range 64).map fun j => (all[64 * i + j]?).getD 0
def fillGo (frm : Int) (all : List Int) : Nat → Nat → DM → Int × DM
  | 0, _, D => syncR D
  | f + 1, i, D => if 64 * i < all.length then (if (writeR D (frm + 2 + i) (secA all i)).1 ≠ 0 then writeR D (frm + 2 + i) (secA all i) else fillGo frm all f (i + 1) (writeR D (frm + 2 + i) (secA all i)).2) else syncR D
def fillR (D : DM) (frm : Int) (all : List Int) (from_ : Int) : Int × DM := fillGo frm all (all.length + 1) (from_ / 64).toNat D
def fillS : Sx.Spec where
  fn := 77
  own := [.link 0 0]
  rd := [0, 1]
  res := [.one (.int .i64)]
  pre := fun xs Hs Rs => ∃ p u all fr H R1 R2 dp sl L D, xs = [p, u, .int .i64 fr] ∧ Hs = [H] ∧ Rs = [R1, R2] ∧ LogRd R1 p dp sl L ∧ OwB R2 5 u all ∧ DiskAt H dp D ∧ 0 ≤ fr ∧ fr ≤ 1073741824 ∧ all.length ≤ 1073741824
  post := fun xs Hs Rs v Hs' F => ∃ p u all fr H R1 R2 dp sl L D H', xs = [p, u, .int .i64 fr] ∧ Hs = [H] ∧ Rs = [R1, R2] ∧ LogRd R1 p dp sl L ∧ OwB R2 5 u all ∧ DiskAt H dp D ∧ Hs' = [H'] ∧ DiskAt H' dp (fillR D L.frm all fr).2 ∧ v = .int .i64 (fillR D L.frm all fr).1
def fillW64 : E := .wrap .i64 (.mul (.var 20) (.lit 64))
def fillM : E := .ite (.lt (.sub (.var 3) fillW64) (.lit 64)) (.sub (.var 3) fillW64) (.lit 64)
def fillY : E := .ite (.eq (.var 4) fillW64) (.var 2) (.add (.var 2) fillW64)
def fillCs : List CV := (List.range 64).map fun (j : Nat) => .int .u8 (.ite (.lt (.lit (j : Int)) fillM) (.hI 7 (.var 1) fillY j) (.lit 0))
def fillNd : Nd := .and (.inv 0 [⟨20, 0, .int .i64 (.wrap .i64 (.quo (.var 5) (.lit 64)))⟩] [(21, some 6)]) (.havoc 0 0 9 (.and (.e (.le (.lit 0) (.var 3))) (.and (.imp (.lt (.wrap .i64 (.mul (.var 20) (.lit 64))) (.var 3)) (.and (.pre (.mk 22 5 [.int .u8 (.lit 0)] 1 (.lit 64))) (.ext (.mk 22 5 [.int .u8 (.lit 0)] 1 (.lit 64)) (.and (.e (.le (.lit (-1)) (.var 1))) (.and (.e (.le (.lit 0) (.var 2))) (.and (.e (.le (.lit 0) (.wrap .i64 (.mul (.var 20) (.lit 64))))) (.and (.e (.le (.wrap .i64 (.mul (.var 20) (.lit 64))) (.var 3))) (.and (.e (.le (.var 3) (.var 4))) (.and (.e (.and (.or (.and (.eq (.var 1) (.lit (-1))) (.eq (.sub (.var 3) (.wrap .i64 (.mul (.var 20) (.lit 64)))) (.lit 0))) (.and (.le (.lit 0) (.var 1)) (.and (.le (.lit 0) fillY) (.hby 7 (.var 1) fillY fillM)))) (.and (.le (.lit 0) (.sub (.var 3) (.wrap .i64 (.mul (.var 20) (.lit 64))))) (.le fillM (.lit 64))))) (.and (.e (.le (.lit 0) (.var 0))) (.and (.e (.his 8 (.var 0) (.lit 0) 0 .ptr)) (.and (.e (.his 8 (.var 0) (.lit 1) 0 (.int .i64))) (.and (.pre (.call 0 23 [.sv (.one (.hptr (.hP 8 (.var 0) (.lit 0) 0 0) (.hP 8 (.var 0) (.lit 0) 0 1))), .sv (.one (.int .i64 (.wrap .i64 (.add (.wrap .i64 (.add (.hI 8 (.var 0) (.lit 1) 0) (.lit 2))) (.var 20))))), .sv (.one (.sl (.var 22) (.lit 0) (.lit 64) (.lit 64)))] [.hp 21 [] [.hP 8 (.var 0) (.lit 0) 0 0] []] [.blk 22 fillCs 5])) (.ext (.call 0 23 [.sv (.one (.hptr (.hP 8 (.var 0) (.lit 0) 0 0) (.hP 8 (.var 0) (.lit 0) 0 1))), .sv (.one (.int .i64 (.wrap .i64 (.add (.wrap .i64 (.add (.hI 8 (.var 0) (.lit 1) 0) (.lit 2))) (.var 20))))), .sv (.one (.sl (.var 22) (.lit 0) (.lit 64) (.lit 64)))] [.hp 21 [] [.hP 8 (.var 0) (.lit 0) 0 0] []] [.blk 22 fillCs 5]) (.and (.imp (.not (.eq (.var 23) (.lit 0))) (.post [.hp 23 [21] [.hP 8 (.var 0) (.lit 0) 0 0] [], .ro 7 [.var 1] false, .ro 8 [.var 0] false, .dead] (.sv (.one (.int .i64 (.var 23)))))) (.imp (.eq (.var 23) (.lit 0)) (.back 0 0 [⟨20, 0, .int .i64 (.wrap .i64 (.add (.var 20) (.lit 1)))⟩] [(21, some 23)]))))))))))))))))) (.imp (.not (.lt (.wrap .i64 (.mul (.var 20) (.lit 64))) (.var 3))) (.and (.e (.le (.lit 0) (.var 0))) (.and (.e (.his 8 (.var 0) (.lit 0) 0 .ptr)) (.and (.pre (.call 1 22 [.sv (.one (.hptr (.hP 8 (.var 0) (.lit 0) 0 0) (.hP 8 (.var 0) (.lit 0) 0 1)))] [.hp 21 [] [.hP 8 (.var 0) (.lit 0) 0 0] []] [])) (.ext (.call 1 22 [.sv (.one (.hptr (.hP 8 (.var 0) (.lit 0) 0 0) (.hP 8 (.var 0) (.lit 0) 0 1)))] [.hp 21 [] [.hP 8 (.var 0) (.lit 0) 0 0] []] []) (.post [.hp 22 [21] [.hP 8 (.var 0) (.lit 0) 0 0] [], .ro 7 [.var 1] false, .ro 8 [.var 0] false] (.sv (.one (.int .i64 (.var 22)))))))))))))
def fillΓ : List Sx.Spec := [writeS, syncS]
theorem fillΓ_ok : ∀ t ∈ fillΓ, t.OK Tryd.prog := fun t ht => by
  simp only [fillΓ, List.mem_cons, List.mem_nil_iff, or_false] at ht
  rcases ht with rfl | rfl
  · exact writeS_ok
  · exact syncS_ok
def fillW : Walk Tryd.prog fillΓ fillS.fn where
  Λ := fun p => if lp p then some ⟨0, [(7, TI .i64 (.var 20))], [(0, .hp 21 [] [.hP 8 (.var 0) (.lit 0) 0 0] [])], 22⟩ else none
  args := [TP (.var 0) (.lit 0), .sv (.one (.sl (.var 1) (.var 2) (.var 3) (.var 4))), TI .i64 (.var 5)]
  mem := [.hp 6 [] [.hP 8 (.var 0) (.lit 0) 0 0] [], .ro 7 [.var 1] false, .ro 8 [.var 0] false]
  nv := 9
  nd := fillNd
  ok := by kernel_rfl
theorem fg0 : fillΓ[0]? = some writeS := rfl
theorem fg1 : fillΓ[1]? = some syncS := rfl
theorem fr0 : writeS.res = [.one (.int .i64)] := rfl
theorem fr1 : syncS.res = [.one (.int .i64)] := rfl
def fillInv (D : DM) (frm : Int) (all : List Int) (dp : Value) (fr : Int) (_ : Nat) (q : Env) : Prop := ∃ (f i : Nat) (D1 : DM), q.i 20 = i ∧ DiskAt (q.h 21) dp D1 ∧ fillGo frm all f i D1 = fillR D frm all fr ∧ all.length + 1 ≤ f + i ∧ i ≤ all.length + 16777217
theorem fillS_ok : fillS.OK Tryd.prog := by
  refine Spec.of_fn (Γ := fillΓ) fillΓ_ok ?_
  rintro xs Hs Rs hl1 hl2 ⟨p, u, all, fr, H, R1, R2, dp, sl, L, D, rfl, rfl, rfl, ⟨a, rfl, hL⟩, hO, hD, hf0, hf1, hall⟩
  obtain ⟨x, c, hx, rfl, hc, hcell⟩ := OwB.rep hO
  refine ⟨fillW, envI [a, x, 0, all.length, c, fr] false [Hl.none, Hl.none, Hl.none, Hl.none, Hl.none, Hl.none, H, R2, R1], fillInv D L.frm all dp fr, fun _ q => (all.length - q.i 20).toNat, ?_, ⟨?_, ?_, ?_, ?_⟩, (fun _ h => nomatch h), ?_⟩
  · show [Value.pointer (slP (a : Int) 0), Value.slice (slP x 0) ((all.length : Int)).toNat ((c : Int)).toNat, Value.int .i64 fr] = _
    rw [dArg, Int.toNat_natCast, Int.toNat_natCast]
  · intro r hr ho
    simp [fillW] at hr
    rcases hr with rfl | rfl | rfl
    · exact ⟨H, by simp, Hl.le_refl _⟩
    · cases ho
    · cases ho
  · intro r hr ho
    simp [fillW] at hr
    rcases hr with rfl | rfl | rfl
    · cases ho
    · exact ⟨R2, by simp, Hl.le_refl _⟩
    · exact ⟨R1, by simp, Hl.le_refl _⟩
  · simp [fillW, Res.own]
  · intro r hr
    simp [fillW] at hr
    rcases hr with rfl | rfl | rfl <;> trivial
  · show Nd.holds _ _ _ fillNd
    generalize hρ : envI [(a : Int), x, 0, all.length, c, fr] false [Hl.none, Hl.none, Hl.none, Hl.none, Hl.none, Hl.none, H, R2, R1] = ρ
    have v0 : ρ.i 0 = a := by rw [← hρ]; rfl
    have v1 : ρ.i 1 = x := by rw [← hρ]; rfl
    have v2 : ρ.i 2 = 0 := by rw [← hρ]; rfl
    have v3 : ρ.i 3 = all.length := by rw [← hρ]; rfl
    have v4 : ρ.i 4 = c := by rw [← hρ]; rfl
    have v5 : ρ.i 5 = fr := by rw [← hρ]; rfl
    have w6 : ρ.h 6 = H := by rw [← hρ]; rfl
    have w7 : ρ.h 7 = R2 := by rw [← hρ]; rfl
    have w8 : ρ.h 8 = R1 := by rw [← hρ]; rfl
    unfold fillNd
    simp only [Nd.holds, X.pre, X.rel, X.n, Src.ok, Src.len, Src.vals, true_and, and_true, if_true, Nat.mul_one, Nat.add_zero, Nat.reduceAdd, List.length_cons, List.length_nil, bT_tt, bT_ff, bT_bvar, bT_not, bT_and, bT_or, bT_ite, bT_lt, bT_le, bT_eq, bT_beq, bT_seq, bT_hB, bT_his, bT_hby, bT_hism, bT_hks, iev_lit, iev_var, iev_add, iev_sub, iev_mul, iev_wrap, iev_ite, iev_hI, iev_hP, iev_hmlen, sev_ite, sev_slit, sev_sof, sev_svar, TV.ev, SV.ev, CV.ev, List.map_cons, List.map_nil, Res.hl, cpTV, Cp.sv, Ck.cv, cpSVs, Cp.len, Ck.len, newHs_zero, newHs_one, roots_ne, fg0, fg1, fr0, fr1]
    have t0 : Int.toNat 0 = 0 := rfl
    have t1 : Int.toNat 1 = 1 := rfl
    have t64 : Int.toNat 64 = 64 := rfl
    obtain ⟨da, s, m, es, clock, hdp, hDi⟩ := id hD
    have c0 : R1.cell a 0 = some dp := by rw [hL.cell]; rfl
    have c1 : R1.cell a 1 = some (.int .i64 L.frm) := by rw [hL.cell]; rfl
    obtain ⟨f0, f1⟩ := hL.1.frm
    have ep : Value.pointer (slP (valP (R1.cell a 0) 0) (valP (R1.cell a 0) 1)) = dp := by rw [c0, hdp]; exact dArg da
    have wk : valIs (R1.cell a 0) Kd.ptr = true := by rw [c0, hdp]; rfl
    refine ⟨⟨all.length + 1, (fr / 64).toNat, D, ?_, ?_, rfl, by omega, by omega⟩, fun q g ⟨f, i, D1, e20, hD1, hgo, hfi, hi⟩ => ?_⟩
    · show IntKind.i64.wrap ((ρ.i 5).tdiv 64) = _
      rw [v5, Int.tdiv_eq_ediv_of_nonneg hf0, wrap_i64 (by omega) (by omega)]
      omega
    · show DiskAt (ρ.h 6) dp D
      rw [w6]; exact hD
    · have u0 : q.i 0 = a := by rw [g.i 0 (by omega), v0]
      have u3 : q.i 3 = all.length := by rw [g.i 3 (by omega), v3]
      have y8 : q.h 8 = R1 := by rw [g.h 8 (by omega), w8]
      have ew : IntKind.i64.wrap ((i : Int) * 64) = 64 * i := by rw [wrap_i64 (by omega) (by omega)]; omega
      have out : ∀ (q' : Env) (n : Nat) (vs : List Nat) (t : Mem) (r : Int × DM), Agree 9 ρ q' → fillR D L.frm all fr = r → DiskAt (q'.h n) dp r.2 → q'.i n = r.1 →
          postOf fillS [.pointer (some ⟨a, 0, none⟩), .slice (slP x 0) all.length c, .int .i64 fr] [H] [R1, R2] q' (.hp n vs [.hP 8 (.var 0) (.lit 0) 0 0] [] :: t) (.sv (.one (.int .i64 (.var n)))) := by
        intro q' n vs t r hq hr h1 h2 _
        refine ⟨[[0]], [], rfl, rfl, ⟨⟨fun _ => q'.i n, fun _ => false, fun _ => .empty, fun _ => .tuple #[], fun _ => Hl.none⟩, rfl, trivial, trivial⟩, _, _, all, fr, H, R1, R2, dp, sl, L, D, _, rfl, rfl, rfl, ⟨a, rfl, hL⟩, hO, hD, rfl, ?_, ?_⟩
        · show DiskAt (hls [q'.h n]) _ _
          rw [hls_one, hr]; exact h1
        · show Value.int .i64 (q'.i n) = _
          rw [h2, hr]
      rw [u0, u3, e20, ew, y8, Int.toNat_natCast, t0, ep]
      refine ⟨by omega, fun hlt => ⟨⟨by omega, by omega, by omega⟩, fun q1 g1 ⟨p22, _⟩ => ?_⟩, fun hge => ⟨by omega, wk, ⟨_, _, D1, rfl, rfl, hD1⟩, fun q1 g1 ⟨F, ⟨p', H', D', H2, hx, hH, hD', hH2, hD2, hv⟩, _, _⟩ => ?_⟩⟩
      · have G1 : Agree 9 ρ q1 := g.trans (g1.mono (by omega))
        have x1 : q1.i 1 = x := by rw [G1.i 1 (by omega), v1]
        have x2 : q1.i 2 = 0 := by rw [G1.i 2 (by omega), v2]
        have x3 : q1.i 3 = all.length := by rw [G1.i 3 (by omega), v3]
        have x4 : q1.i 4 = c := by rw [G1.i 4 (by omega), v4]
        have x20 : q1.i 20 = i := by rw [g1.i 20 (by omega), e20]
        have z7 : q1.h 7 = R2 := by rw [G1.h 7 (by omega), w7]
        have hcell : 0 ≤ x ∧ ∀ (j : Nat) (z : Int), all[j]? = some z → R2.cell x.toNat j = some (.int .u8 z) := by
          rcases hcell with ⟨_, h⟩ | h
          · rw [h] at hlt; simp only [List.length_nil] at hlt; omega
          · exact h
        obtain ⟨hx0, hcell⟩ := hcell
        have eW : iev q1 fillW64 = 64 * i := by
          unfold fillW64
          rw [iev_wrap, iev_mul, iev_var, iev_lit, x20, ew]
        have eM : iev q1 fillM = min (all.length - 64 * i : Int) 64 := by
          unfold fillM
          rw [iev_ite, bev_lt, iev_sub, iev_var, iev_lit, eW, x3]
          simp only [decide_eq_true_eq]
          split <;> omega
        have eY : iev q1 fillY = 64 * i := by
          unfold fillY
          rw [iev_ite, bev_eq, iev_add, iev_var, iev_var, eW, x2, x4]
          simp only [decide_eq_true_eq]
          split <;> omega
        have eC : (fillCs.map (CV.ev q1)) = bys (secA all i) := by
          unfold fillCs secA bys
          rw [List.map_map, List.map_map]
          refine List.map_congr_left fun j hj => ?_
          have hj := List.mem_range.1 hj
          show Value.int .u8 (iev q1 (.ite (.lt (.lit (j : Int)) fillM) (.hI 7 (.var 1) fillY j) (.lit 0))) = Value.int .u8 _
          rw [iev_ite, bev_lt, iev_hI, iev_lit, iev_lit, eM, eY, iev_var, x1, z7]
          simp only [decide_eq_true_eq]
          rcases Nat.lt_or_ge (64 * i + j) all.length with h | h
          · rw [if_pos (by omega), List.getElem?_eq_getElem h, show (64 * (i : Int)).toNat + j = 64 * i + j by omega, hcell _ _ (List.getElem?_eq_getElem h)]
            rfl
          · rw [if_neg (by omega), List.getElem?_eq_none h]; rfl
        have ei : IntKind.i64.wrap (IntKind.i64.wrap (valI (R1.cell a 1) + 2) + i) = L.frm + 2 + i := by
          rw [c1]
          show IntKind.i64.wrap (IntKind.i64.wrap (L.frm + 2) + i) = _
          rw [wrap_i64 (n := L.frm + 2) (by omega) (by omega), wrap_i64 (by omega) (by omega)]
        have wk1 : valIs (R1.cell a 1) (Kd.int .i64) = true := by rw [c1]; rfl
        have hrd : RdB (Hl.one (q1.i 22).toNat (.cells (bys (secA all i)).toArray 5 (0, 0))) (.slice (slP (q1.i 22) 0) 64 64) (secA all i) := by
          refine ⟨q1.i 22, 0, 64, by simp [secA], by omega, Or.inr ⟨p22, fun j z hz => ?_⟩⟩
          rw [Hl.one_cell, List.getElem?_toArray, bys_get, Int.toNat_zero, Nat.zero_add, hz]; rfl
        rw [x1, x2, x3, x4, x20, ew, eY, eM, eC, z7, G1.i 0 (by omega), v0, G1.h 8 (by omega), w8, Int.toNat_natCast, t1, t64, ep, ei]
        refine ⟨hx, by omega, by omega, by omega, by omega, ⟨Or.inr ⟨hx0, by omega, ?_⟩, by omega, by omega⟩, by omega, wk, wk1, ⟨dp, L.frm + 2 + i, _, secA all i, q1.h 21, _, D1, rfl, rfl, rfl, ?_, hrd⟩, fun q2 g2 ⟨F, ⟨p', i', u', bs', H', R', D', H2, hx, hH, hR, hD', hrd', hH2, hD2, hv⟩, _, _⟩ => ?_⟩
        · refine cells_bytes (bs := all.drop (64 * i)) (fun j z hz => ?_) (by rw [List.length_drop]; omega)
          rw [List.getElem?_drop] at hz
          rw [show (64 * (i : Int)).toNat + j = 64 * i + j by omega]
          exact hcell _ _ hz
        · rw [g1.h 21 (by omega)]; exact hD1
        · cases hx
          cases hH
          cases hR
          rw [g1.h 21 (by omega)] at hD'
          have e := hD'.uniq hD1
          subst e
          have e := hrd'.uniq hrd
          subst e
          simp only [Value.int.injEq, true_and, List.cons.injEq, and_true] at hv hH2
          rw [← hH2] at hD2
          have G2 : Agree 9 ρ q2 := G1.trans (g2.mono (by omega))
          have step : fillGo L.frm all f i D' = if (writeR D' (L.frm + 2 + i) (secA all i)).1 ≠ 0 then writeR D' (L.frm + 2 + i) (secA all i) else fillGo L.frm all (f - 1) (i + 1) (writeR D' (L.frm + 2 + i) (secA all i)).2 := by
            obtain ⟨k, rfl⟩ : ∃ k, f = k + 1 := ⟨f - 1, by omega⟩
            show (if 64 * i < all.length then _ else _) = _
            rw [if_pos (by omega)]; rfl
          refine ⟨fun h => out q2 23 _ _ (writeR D' (L.frm + 2 + i) (secA all i)) G2 ?_ hD2 hv, fun h => ?_⟩
          · rw [← hgo, step, if_pos (by rw [← hv]; exact h)]
          · have e20' : (assign q2 [⟨20, 0, .int .i64 (.wrap .i64 (.add (.var 20) (.lit 1)))⟩] [(21, some 23)]).i 20 = i + 1 := by
              show IntKind.i64.wrap (q2.i 20 + 1) = _
              rw [g2.i 20 (by omega), x20, wrap_i64 (by omega) (by omega)]
            refine ⟨⟨f - 1, i + 1, (writeR D' (L.frm + 2 + i) (secA all i)).2, by rw [e20']; omega, hD2, ?_, by omega, by omega⟩, by rw [e20']; omega⟩
            rw [← hgo, step, if_neg (by rw [← hv, h]; simp)]
      · cases hx
        cases hH
        have e := hD'.uniq hD1
        subst e
        simp only [Value.int.injEq, true_and, List.cons.injEq, and_true] at hv hH2
        rw [← hH2] at hD2
        refine out q1 22 _ _ (syncR D') (g.trans (g1.mono (by omega))) ?_ hD2 hv
        rw [← hgo]
        cases f with
        | zero => rfl
        | succ k =>
          show (if 64 * i < all.length then _ else _) = _
          rw [if_neg (by omega)]
end Go.Proofs.YtomdimlnggpgbaaDoor.D
namespace Go.Proofs.YtomdimlnggpgbaaDoor.D
open Go Go.Sx
def turnR (D : DM) (frm : Int) (h : List Int) : Int × DM :=
  if (writeR D (frm + (h.getD 0 0).tmod 2) (halfL h ++ halfL h)).1 ≠ 0 then writeR D (frm + (h.getD 0 0).tmod 2) (halfL h ++ halfL h) else syncR (writeR D (frm + (h.getD 0 0).tmod 2) (halfL h ++ halfL h)).2
def headOK (h : List Int) : Prop := h.length = 18 ∧ (0 ≤ h.getD 0 0 ∧ h.getD 0 0 < 18446744073709551616) ∧ 0 ≤ h.getD 1 0 ∧ h.getD 1 0 < 18446744073709551616
def turnS : Sx.Spec where
  fn := 78
  own := [.link 0 0]
  rd := [0]
  res := [.one (.int .i64)]
  pre := fun xs Hs Rs => ∃ p h H R dp sl L D, xs = [p, .agg (hdV h).toArray] ∧ Hs = [H] ∧ Rs = [R] ∧ LogRd R p dp sl L ∧ DiskAt H dp D ∧ headOK h
  post := fun xs Hs Rs v Hs' F => ∃ p h H R dp sl L D H', xs = [p, .agg (hdV h).toArray] ∧ Hs = [H] ∧ Rs = [R] ∧ LogRd R p dp sl L ∧ DiskAt H dp D ∧ headOK h ∧ Hs' = [H'] ∧ DiskAt H' dp (turnR D L.frm h).2 ∧ v = .int .i64 (turnR D L.frm h).1
theorem list18 {h : List Int} (hl : h.length = 18) : ∃ a b t, h = a :: b :: t ∧ t.length = 16 := by
  match h, hl with
  | a :: b :: t, hl => exact ⟨a, b, t, rfl, by simpa using hl⟩
theorem intsOf_hdV {h : List Int} (hl : h.length = 18) : intsOf (.agg (hdV h).toArray) = h := by
  obtain ⟨a, b, t, rfl, ht⟩ := list18 hl
  show ([Value.int .u64 a, Value.int .u64 b] ++ t.map (Value.int .u8)).map (fun c => valI (some c)) = _
  rw [List.map_append, List.map_map]
  show [a, b] ++ t.map id = _
  rw [List.map_id]; rfl
theorem hdV_inj {h k : List Int} (h1 : h.length = 18) (h2 : k.length = 18) (e : Value.agg (hdV h).toArray = Value.agg (hdV k).toArray) : h = k := by
  rw [← intsOf_hdV h1, ← intsOf_hdV h2, e]
theorem rowOK_hdV {h : List Int} (hl : h.length = 18) : rowOK (hdV h) (hdk.map kdOf) := by
  obtain ⟨a, b, t, rfl, ht⟩ := list18 hl
  exact ⟨by simp [valIs, kdOf], by simp [valIs, kdOf], rowOK_bys 16 _ ht⟩
theorem normsW_hdk (q : Env) (n : Nat) : ckNormsW n hdk q := ⟨trivial, trivial, normsW_bytes q 16 (n + 2)⟩
theorem half_pre {h : List Int} (hh : headOK h) : halfS.pre [.agg (hdV h).toArray] [] [] := by
  obtain ⟨c, _, _, ec⟩ := row_rep hdk 0 (hdV h) ⟨fun _ => 0, fun _ => false, fun _ => .empty, fun _ => .tuple #[], fun _ => Hl.none⟩ (rowOK_hdV hh.1)
  refine ⟨⟨c, ⟨normsW_hdk c 0, trivial⟩, ?_⟩, ?_⟩
  · show [Value.agg (hdV h).toArray] = [Value.agg ((ckCVs 0 hdk).map (CV.ev c)).toArray]
    rw [ec]
  · show (0 ≤ (intsOf (.agg (hdV h).toArray)).getD 0 0 ∧ (intsOf (.agg (hdV h).toArray)).getD 0 0 < _) ∧ 0 ≤ (intsOf (.agg (hdV h).toArray)).getD 1 0 ∧ (intsOf (.agg (hdV h).toArray)).getD 1 0 < _
    rw [intsOf_hdV hh.1]; exact hh.2
theorem halfL_length {h : List Int} (hl : h.length = 18) : (halfL h).length = 32 := by
  unfold halfL be8
  simp [hl]
def turnNd : Nd := .ext (.alloc 21) (.and (.pre (.call 2 22 [.sv (.agg (ckCVs 1 ([Ck.int .u64, Ck.int .u64] ++ List.replicate 16 (Ck.int .u8))))] [] [])) (.ext (.call 2 22 [.sv (.agg (ckCVs 1 ([Ck.int .u64, Ck.int .u64] ++ List.replicate 16 (Ck.int .u8))))] [] []) (.ext (.alloc 54) (.and (.e (.le (.lit 0) (.var 0))) (.and (.e (.his 20 (.var 0) (.lit 0) 0 .ptr)) (.and (.e (.his 20 (.var 0) (.lit 1) 0 (.int .i64))) (.and (.pre (.grow 55 5 1 1 (ckCVs 22 (List.replicate 32 (Ck.int .u8))) 32 32 (.cvs (ckCVs 22 (List.replicate 32 (Ck.int .u8))) 32))) (.ext (.grow 55 5 1 1 (ckCVs 22 (List.replicate 32 (Ck.int .u8))) 32 32 (.cvs (ckCVs 22 (List.replicate 32 (Ck.int .u8))) 32)) (.and (.pre (.call 0 57 [.sv (.one (.hptr (.hP 20 (.var 0) (.lit 0) 0 0) (.hP 20 (.var 0) (.lit 0) 0 1))), .sv (.one (.int .i64 (.wrap .i64 (.add (.hI 20 (.var 0) (.lit 1) 0) (.wrap .i64 (.rem (.var 1) (.lit 2))))))), .sv (.one (.sl (.var 55) (.lit 0) (.lit 64) (.var 56)))] [.hp 19 [] [.hP 20 (.var 0) (.lit 0) 0 0] []] [.hp 55 [] [.var 55] []])) (.ext (.call 0 57 [.sv (.one (.hptr (.hP 20 (.var 0) (.lit 0) 0 0) (.hP 20 (.var 0) (.lit 0) 0 1))), .sv (.one (.int .i64 (.wrap .i64 (.add (.hI 20 (.var 0) (.lit 1) 0) (.wrap .i64 (.rem (.var 1) (.lit 2))))))), .sv (.one (.sl (.var 55) (.lit 0) (.lit 64) (.var 56)))] [.hp 19 [] [.hP 20 (.var 0) (.lit 0) 0 0] []] [.hp 55 [] [.var 55] []]) (.and (.imp (.not (.eq (.var 57) (.lit 0))) (.post [.hp 57 [19] [.hP 20 (.var 0) (.lit 0) 0 0] [], .ro 20 [.var 0] false, .dead, .dead, .hp 55 [] [.var 55] []] (.sv (.one (.int .i64 (.var 57)))))) (.imp (.eq (.var 57) (.lit 0)) (.and (.pre (.call 1 59 [.sv (.one (.hptr (.hP 20 (.var 0) (.lit 0) 0 0) (.hP 20 (.var 0) (.lit 0) 0 1)))] [.hp 57 [19] [.hP 20 (.var 0) (.lit 0) 0 0] []] [])) (.ext (.call 1 59 [.sv (.one (.hptr (.hP 20 (.var 0) (.lit 0) 0 0) (.hP 20 (.var 0) (.lit 0) 0 1)))] [.hp 57 [19] [.hP 20 (.var 0) (.lit 0) 0 0] []] []) (.post [.hp 59 [57, 19] [.hP 20 (.var 0) (.lit 0) 0 0] [], .ro 20 [.var 0] false, .dead, .dead, .hp 55 [] [.var 55] []] (.sv (.one (.int .i64 (.var 59)))))))))))))))))))
def turnΓ : List Sx.Spec := [writeS, syncS, halfS]
theorem turnΓ_ok : ∀ t ∈ turnΓ, t.OK Tryd.prog := fun t ht => by
  simp only [turnΓ, List.mem_cons, List.mem_nil_iff, or_false] at ht
  rcases ht with rfl | rfl | rfl
  · exact writeS_ok
  · exact syncS_ok
  · exact halfS_ok
def turnW : Walk Tryd.prog turnΓ turnS.fn where
  Λ := noLoops
  args := [TP (.var 0) (.lit 0), .sv (.agg (ckCVs 1 hdk))]
  mem := [.hp 19 [] [.hP 20 (.var 0) (.lit 0) 0 0] [], .ro 20 [.var 0] false]
  nv := 21
  nd := turnNd
  ok := by kernel_rfl
theorem tg0 : turnΓ[0]? = some writeS := rfl
theorem tg1 : turnΓ[1]? = some syncS := rfl
theorem tg2 : turnΓ[2]? = some halfS := rfl
theorem tr2 : halfS.res = [.agg (u8s 32)] := rfl
theorem turnS_ok : turnS.OK Tryd.prog := by
  refine Spec.of_fn (Γ := turnΓ) turnΓ_ok ?_
  rintro xs Hs Rs hl1 hl2 ⟨p, h, H, R, dp, sl, L, D, rfl, rfl, rfl, ⟨a, rfl, hL⟩, hD, hh⟩
  obtain ⟨b0, b1, t, hht, htl⟩ := list18 hh.1
  have hg0 : h.getD 0 0 = b0 := by rw [hht]; rfl
  refine ⟨turnW, ⟨fun k => if k = 0 then (a : Int) else h.getD (k - 1) 0, fun _ => false, fun _ => .empty, fun _ => .tuple #[], fun k => if k = 19 then H else R⟩, fun _ _ => True, fun _ _ => 0, ?_, ⟨?_, ?_, ?_, ?_⟩, (fun _ h => nomatch h), ?_⟩
  · generalize hq : (⟨fun k => if k = 0 then (a : Int) else h.getD (k - 1) 0, fun _ => false, fun _ => .empty, fun _ => .tuple #[], fun k => if k = 19 then H else R⟩ : Env) = q
    show [Value.pointer (slP (q.i 0) 0), Value.agg ((ckCVs 1 hdk).map (CV.ev q)).toArray] = _
    have e0 : q.i 0 = a := by rw [← hq]; rfl
    have e1 : (ckCVs 1 hdk).map (CV.ev q) = hdV h := by
      rw [← hq, hht]
      match t, htl with
      | [a1, a2, a3, a4, a5, a6, a7, a8, a9, a10, a11, a12, a13, a14, a15, a16], _ => rfl
    rw [e0, dArg, e1]
  · intro r hr ho
    simp [turnW] at hr
    rcases hr with rfl | rfl
    · exact ⟨H, by simp, Hl.le_refl _⟩
    · cases ho
  · intro r hr ho
    simp [turnW] at hr
    rcases hr with rfl | rfl
    · cases ho
    · exact ⟨R, by simp, Hl.le_refl _⟩
  · simp [turnW, Res.own]
  · intro r hr
    simp [turnW] at hr
    rcases hr with rfl | rfl <;> trivial
  · show Nd.holds _ _ _ turnNd
    generalize hρ : (⟨fun k => if k = 0 then (a : Int) else h.getD (k - 1) 0, fun _ => false, fun _ => .empty, fun _ => .tuple #[], fun k => if k = 19 then H else R⟩ : Env) = ρ
    have v0 : ρ.i 0 = a := by rw [← hρ]; rfl
    have v1 : ρ.i 1 = b0 := by rw [← hρ, ← hg0]; rfl
    have w19 : ρ.h 19 = H := by rw [← hρ]; rfl
    have w20 : ρ.h 20 = R := by rw [← hρ]; rfl
    have eH : (ckCVs 1 hdk).map (CV.ev ρ) = hdV h := by
      rw [← hρ, hht]
      match t, htl with
      | [a1, a2, a3, a4, a5, a6, a7, a8, a9, a10, a11, a12, a13, a14, a15, a16], _ => rfl
    unfold turnNd
    simp only [Nd.holds, X.pre, X.rel, X.n, Src.ok, Src.len, Src.vals, true_and, and_true, if_true, Nat.mul_one, Nat.add_zero, Nat.reduceAdd, List.length_cons, List.length_nil, bT_tt, bT_ff, bT_bvar, bT_not, bT_and, bT_or, bT_ite, bT_lt, bT_le, bT_eq, bT_beq, bT_seq, bT_hB, bT_his, bT_hby, bT_hism, bT_hks, iev_lit, iev_var, iev_add, iev_sub, iev_mul, iev_wrap, iev_ite, iev_hI, iev_hP, iev_hmlen, sev_ite, sev_slit, sev_sof, sev_svar, TV.ev, SV.ev, CV.ev, List.map_cons, List.map_nil, Res.hl, cpTV, Cp.sv, Ck.cv, cpSVs, Cp.len, Ck.len, newHs_zero, newHs_one, roots_ne, tg0, tg1, tg2, fr0, fr1, tr2]
    intro q1 g1 _
    have t0 : Int.toNat 0 = 0 := rfl
    have t1 : Int.toNat 1 = 1 := rfl
    have t64 : Int.toNat 64 = 64 := rfl
    obtain ⟨da, s, m, es, clock, hdp, hDi⟩ := id hD
    have c0 : R.cell a 0 = some dp := by rw [hL.cell]; rfl
    have c1 : R.cell a 1 = some (.int .i64 L.frm) := by rw [hL.cell]; rfl
    obtain ⟨f0, f1⟩ := hL.1.frm
    have ep : Value.pointer (slP (valP (R.cell a 0) 0) (valP (R.cell a 0) 1)) = dp := by rw [c0, hdp]; exact dArg da
    have wk : valIs (R.cell a 0) Kd.ptr = true := by rw [c0, hdp]; rfl
    have wk1 : valIs (R.cell a 1) (Kd.int .i64) = true := by rw [c1]; rfl
    have ⟨hb0, hb1⟩ : 0 ≤ b0 ∧ b0 < 18446744073709551616 := by rw [← hg0]; exact hh.2.1
    have r0 := Int.tmod_nonneg 2 hb0
    have r1 := Int.tmod_lt_of_pos b0 (by decide : (0 : Int) < 2)
    have ei : IntKind.i64.wrap (valI (R.cell a 1) + IntKind.i64.wrap (b0.tmod 2)) = L.frm + (h.getD 0 0).tmod 2 := by
      rw [c1, hg0]
      show IntKind.i64.wrap (L.frm + IntKind.i64.wrap (b0.tmod 2)) = _
      rw [wrap_i64 (n := b0.tmod 2) (by omega) (by omega)]
      exact wrap_i64 (by omega) (by omega)
    have e1 : (ckCVs 1 ([Ck.int IntKind.u64, Ck.int IntKind.u64] ++ List.replicate 16 (Ck.int IntKind.u8))).map (CV.ev q1) = hdV h := by
      rw [← eH]
      exact CV.agreeL (g1.mono (by decide)) _ (ckCVs_upto hdk 1)
    rw [e1]
    refine ⟨half_pre hh, fun q2 g2 ⟨F2, hp2, _, _⟩ q3 g3 _ => ?_⟩
    have hp2 : Value.agg (List.map (CV.ev q2) (ckCVs 22 (u8s 32))).toArray = Value.agg (bys (halfL (intsOf (.agg (hdV h).toArray)))).toArray := hp2
    rw [intsOf_hdV hh.1] at hp2
    have hp2 : List.map (CV.ev q2) (ckCVs 22 (u8s 32)) = bys (halfL h) := by simpa using hp2
    have e3 : List.map (CV.ev q3) (ckCVs 22 (List.replicate 32 (Ck.int IntKind.u8))) = bys (halfL h) := by
      rw [← hp2]
      exact CV.agreeL (g3.mono (by decide)) _ (ckCVs_upto (u8s 32) 22)
    have G3 : Agree 21 ρ q3 := (g1.trans (g2.mono (by omega))).trans (g3.mono (by omega))
    rw [e3, G3.i 0 (by omega), v0, G3.h 20 (by omega), w20, Int.toNat_natCast, t0, t1]
    refine ⟨by omega, wk, wk1, ⟨by omega, by decide, by decide⟩, fun q4 g4 ⟨p55, p56, hO, _⟩ => ?_⟩
    have G4 : Agree 21 ρ q4 := G3.trans (g4.mono (by omega))
    have hbl : (halfL h ++ halfL h).length = 64 := by rw [List.length_append, halfL_length hh.1]
    have hO : OwB (q4.h 55) 5 (.slice (slP (q4.i 55) 0) (Int.toNat 64) (q4.i 56).toNat) (halfL h ++ halfL h) := by
      unfold OwB
      rw [hbl, bys_append]; exact hO
    rw [iev_rem, iev_var, iev_lit, G4.i 0 (by omega), v0, G4.i 1 (by omega), v1, G4.h 20 (by omega), w20, G4.h 19 (by omega), w19, Int.toNat_natCast, ep, ei]
    refine ⟨⟨dp, _, _, halfL h ++ halfL h, H, _, D, rfl, rfl, rfl, hD, hO.rd⟩, fun q5 g5 ⟨F, ⟨p', i', u', bs', H', R', D', H2, hx, hH, hR, hD', hrd', hH2, hD2, hv⟩, _, _⟩ => ?_⟩
    cases hx
    cases hH
    cases hR
    have e := hD'.uniq hD
    subst e
    have e := hrd'.uniq hO.rd
    subst e
    simp only [Value.int.injEq, true_and, List.cons.injEq, and_true] at hv hH2
    rw [← hH2] at hD2
    have G5 : Agree 21 ρ q5 := G4.trans (g5.mono (by omega))
    have out : ∀ (q' : Env) (n : Nat) (vs : List Nat) (t : Mem) (r : Int × DM), turnR D' L.frm h = r → DiskAt (q'.h n) dp r.2 → q'.i n = r.1 →
        postOf turnS [.pointer (some ⟨a, 0, none⟩), .agg (hdV h).toArray] [H] [R] q' (.hp n vs [.hP 20 (.var 0) (.lit 0) 0 0] [] :: t) (.sv (.one (.int .i64 (.var n)))) := by
      intro q' n vs t r hr h1 h2 _
      refine ⟨[[0]], [], rfl, rfl, ⟨⟨fun _ => q'.i n, fun _ => false, fun _ => .empty, fun _ => .tuple #[], fun _ => Hl.none⟩, rfl, trivial, trivial⟩, _, h, H, R, dp, sl, L, D', _, rfl, rfl, rfl, ⟨a, rfl, hL⟩, hD, hh, rfl, ?_, ?_⟩
      · show DiskAt (hls [q'.h n]) _ _
        rw [hls_one, hr]; exact h1
      · show Value.int .i64 (q'.i n) = _
        rw [h2, hr]
    rw [G5.i 0 (by omega), v0, G5.h 20 (by omega), w20, Int.toNat_natCast, ep]
    refine ⟨fun hne => out q5 57 _ _ _ ?_ hD2 hv, fun heq => ⟨⟨dp, _, _, rfl, rfl, hD2⟩, fun q6 g6 ⟨F, ⟨p', H', D2, H3, hx, hH, hD3, hH3, hD4, hv3⟩, _, _⟩ => ?_⟩⟩
    · unfold turnR
      rw [if_pos (by rw [← hv]; exact hne)]
    · cases hx
      cases hH
      have e := hD3.uniq hD2
      subst e
      simp only [Value.int.injEq, true_and, List.cons.injEq, and_true] at hv3 hH3
      rw [← hH3] at hD4
      refine out q6 59 _ _ _ ?_ hD4 hv3
      unfold turnR
      rw [if_neg (by rw [← hv, heq]; simp)]
end Go.Proofs.YtomdimlnggpgbaaDoor.D
namespace Go.Proofs.YtomdimlnggpgbaaDoor.D
open Go Go.Sx
def lObj (dp sl : Value) (L : LM) : Obj := .cells (lCells dp sl L).toArray 81 (0, 0)
def LogAt (H : Hl) (p dp : Value) (L : LM) (bs : List Int) : Prop := ∃ (a : Nat) (sl : Value) (HB : Hl), p = .pointer (some ⟨a, 0, none⟩) ∧ L.ok ∧ OwB HB 5 sl bs ∧ (Hl.one a (lObj dp sl L)).dis HB ∧ H = hls [Hl.one a (lObj dp sl L), HB]
theorem LogAt.parts {H : Hl} {p dp : Value} {L : LM} {bs : List Int} (h : LogAt H p dp L bs) : ∃ sl, LogRd H p dp sl L ∧ RdB H sl bs := by
  obtain ⟨a, sl, HB, rfl, hok, hO, hd, rfl⟩ := h
  refine ⟨sl, ⟨a, rfl, hok, ?_⟩, ?_⟩
  · exact Hl.un_left _ _ _ _ (Hl.one_self _ _)
  · obtain ⟨x, y, c, hv, hy, h⟩ := hO.rd
    refine ⟨x, y, c, hv, hy, h.imp id fun ⟨h0, h⟩ => ⟨h0, fun j z hz => ?_⟩⟩
    have hle : HB.le (hls [Hl.one a (lObj dp sl L), HB]) := by
      show HB.le ((Hl.one a (lObj dp sl L)).un (hls [HB]))
      rw [hls_one]; exact Hl.un_right hd
    have := h j z hz
    unfold Hl.cell at this ⊢
    split at this
    · rename_i o c' T fr ho
      rw [hle _ _ ho]; exact this
    · cases this
theorem LogAt.uniq {H : Hl} {p dp dp' : Value} {L L' : LM} {bs bs' : List Int} (h : LogAt H p dp L bs) (h' : LogAt H p dp' L' bs') : dp = dp' ∧ L = L' ∧ bs = bs' := by
  obtain ⟨sl, h1, h2⟩ := h.parts
  obtain ⟨sl', h1', h2'⟩ := h'.parts
  obtain ⟨e1, rfl, e3⟩ := h1.uniq h1'
  exact ⟨e1, e3, h2.uniq h2'⟩
theorem OwB.pre {F : Hl} {e : TypeId} {x l c : Int} {bs : List Int} (h : OwB F e (.slice (slP x 0) l.toNat c.toNat) bs) (hx : -1 ≤ x) {n : Int} (h0 : 0 ≤ n) (hn : n.toNat ≤ bs.length) : OwB F e (.slice (slP x 0) n.toNat c.toNat) (bs.take n.toNat) := by
  obtain ⟨hl, h⟩ := h
  have e1 : (bs.take n.toNat).length = n.toNat := by rw [List.length_take]; omega
  refine ⟨by rw [bys_length]; omega, ?_⟩
  rw [e1]
  rcases h with ⟨h, hb⟩ | ⟨g, cap, cur, h, hg, hle, hm, hs, ht⟩
  · simp only [Value.slice.injEq] at h
    refine Or.inl ⟨?_, by omega⟩
    rw [h.1, h.2.2, show n.toNat = 0 by omega]
  · simp only [Value.slice.injEq] at h
    refine Or.inr ⟨g, cap, cur, by rw [h.1, h.2.2], hg, by omega, hm, hs, ?_⟩
    have := congrArg (List.take n.toNat) ht
    rw [List.take_take] at this
    rw [Nat.mul_one]
    rw [show min n.toNat (bs.length * 1) = n.toNat by omega] at this
    rw [this]
    unfold bys
    rw [List.map_take]
def logK : List Ck := [.ptr, .int .i64, .int .i64, .int .u64, .int .u64] ++ List.replicate 16 (.int .u8)
def lInts (da : Nat) (L : LM) : List Int := [(da : Int), 0, L.frm, L.most, L.serial, L.size] ++ L.note
theorem list16 {l : List Int} (h : l.length = 16) : ∃ a1 a2 a3 a4 a5 a6 a7 a8 a9 a10 a11 a12 a13 a14 a15 a16, l = [a1, a2, a3, a4, a5, a6, a7, a8, a9, a10, a11, a12, a13, a14, a15, a16] := by
  match l, h with
  | [a1, a2, a3, a4, a5, a6, a7, a8, a9, a10, a11, a12, a13, a14, a15, a16], _ => exact ⟨a1, a2, a3, a4, a5, a6, a7, a8, a9, a10, a11, a12, a13, a14, a15, a16, rfl⟩
theorem logK_ev {q : Env} {n da : Nat} {L : LM} (hL : L.ok) (h : ∀ k, k < 22 → q.i (n + k) = (lInts da L).getD k 0) : (ckCVs n logK).map (CV.ev q) = [Value.pointer (some ⟨da, 0, none⟩), .int .i64 L.frm, .int .i64 L.most, .int .u64 L.serial, .int .u64 L.size] ++ bys L.note := by
  obtain ⟨a1, a2, a3, a4, a5, a6, a7, a8, a9, a10, a11, a12, a13, a14, a15, a16, hn⟩ := list16 hL.note
  have hq := Agree.refl 0 q
  have key : ∀ (q' : Env), (∀ k, k < 22 → q'.i k = (lInts da L).getD k 0) → (ckCVs 0 logK).map (CV.ev q') = [Value.pointer (some ⟨da, 0, none⟩), .int .i64 L.frm, .int .i64 L.most, .int .u64 L.serial, .int .u64 L.size] ++ bys L.note := by
    intro q' h
    have ag : Agree 22 (⟨fun k => (lInts da L).getD k 0, fun _ => false, fun _ => .empty, fun _ => .tuple #[], fun _ => Hl.none⟩ : Env) ⟨q'.i, fun _ => false, fun _ => .empty, fun _ => .tuple #[], fun _ => Hl.none⟩ := ⟨fun k hk => h k hk, fun _ _ => rfl, fun _ _ => rfl, fun _ _ => rfl, fun _ _ => rfl⟩
    have e1 : (ckCVs 0 logK).map (CV.ev q') = (ckCVs 0 logK).map (CV.ev ⟨q'.i, fun _ => false, fun _ => .empty, fun _ => .tuple #[], fun _ => Hl.none⟩) := rfl
    rw [e1, CV.agreeL ag _ (ckCVs_upto logK 0)]
    unfold lInts
    rw [hn]
    have ed : Value.pointer (slP (da : Int) 0) = .pointer (some ⟨da, 0, none⟩) := dArg da
    show [Value.pointer (slP (da : Int) 0)] ++ _ = _
    rw [ed]; rfl
  have := key ⟨fun k => q.i (n + k), q.b, q.s, q.v, q.h⟩ h
  rw [← this]
  rfl
theorem spec_of_fn2 {P : Program} {s : Sx.Spec} {Γ : List Sx.Spec} (hΓ : ∀ t ∈ Γ, t.OK P)
    (h : ∀ xs Hs Rs, Hs.length = s.own.length → Rs.length = s.rd.length → (∀ (p q : Nat) H K, p ≠ q → Hs[p]? = some H → Hs[q]? = some K → H.dis K) → s.pre xs Hs Rs → ∃ (W : Walk P Γ s.fn) (ρ : Env) (inv : Nat → Env → Prop) (mu : Nat → Env → Nat),
      W.args.map (TV.ev ρ) = xs ∧ Entry ρ W.mem Hs Rs ∧ Path ρ W.path ∧ W.nd.holds ⟨Γ, inv, mu, postOf s xs Hs Rs⟩ (fun _ => 0) ρ) : s.OK P := by
  intro w xs Hs Rs hl1 hl2 hs1 hs2 hd1 hd2 hpre
  obtain ⟨W, ρ, inv, mu, hx, hE, hp, hn⟩ := h xs Hs Rs hl1 hl2 hd1 hpre
  have hm := hE.mrel hs1 hs2 hd2
  have := fn_sound (C := ⟨Γ, inv, mu, postOf s xs Hs Rs⟩) hΓ (dk_ok (C := ⟨Γ, inv, mu, postOf s xs Hs Rs⟩) hΓ) W.ok hm hp hn
  rw [hx] at this
  refine this.mono ?_
  rintro e w' ⟨ρ', mem', r, rfl, hg, hm', hp'⟩
  obtain ⟨gs, f, hl, hok, ⟨ρ2, h2, h3⟩, hpost⟩ := hp' hm'.dis
  refine ⟨ρ2, gs.map (uni ρ' mem'), uni ρ' mem' f, by rw [h2], h3, Turned.of hm' hl hok, ?_⟩
  rw [← h2]; exact hpost
def bytesAt (D : DM) (frm : Int) (n : Int) : List Int := (D.now.drop (64 * (frm + 2).toNat)).take n.toNat
def loadS : Sx.Spec where
  fn := 40
  own := [.arg 0, .link 0 0]
  rd := []
  res := [.one (.int .i64)]
  pre := fun xs Hs Rs => ∃ p a HL HD dp L D, xs = [p] ∧ Hs = [HL, HD] ∧ p = .pointer (some ⟨a, 0, none⟩) ∧ LogIn HL a dp (.slice none 0 0) L ∧ DiskAt HD dp D ∧ D.gone = false ∧ 0 ≤ L.size ∧ 64 * (L.frm + 2) + L.size ≤ 64 * D.n
  post := fun xs Hs Rs v Hs' F => ∃ p a HL HD dp L D HL' HD', xs = [p] ∧ Hs = [HL, HD] ∧ p = .pointer (some ⟨a, 0, none⟩) ∧ LogIn HL a dp (.slice none 0 0) L ∧ DiskAt HD dp D ∧ Hs' = [HL', HD'] ∧ DiskAt HD' dp D ∧ LogAt HL' p dp L (bytesAt D L.frm L.size) ∧ v = .int .i64 0
def loadNd : Nd := .and (.inv 0 [⟨40, 0, .int .i64 (.lit 0)⟩, ⟨41, 0, .int .i64 (.lit (-1))⟩, ⟨43, 0, .int .i64 (.lit 0)⟩, ⟨44, 0, .int .i64 (.lit 0)⟩] [(45, some 24), (46, none)]) (.havoc 0 0 25 (.and (.e (.le (.lit 0) (.var 43))) (.and (.imp (.lt (.var 43) (.wrap .i64 (.var 6))) (.and (.pre (.call 0 47 [.sv (.one (.hptr (.var 1) (.var 2))), .sv (.one (.int .i64 (.wrap .i64 (.add (.wrap .i64 (.add (.var 3) (.lit 2))) (.var 40)))))] [.hp 45 [] [.var 1] []] [])) (.ext (.call 0 47 [.sv (.one (.hptr (.var 1) (.var 2))), .sv (.one (.int .i64 (.wrap .i64 (.add (.wrap .i64 (.add (.var 3) (.lit 2))) (.var 40)))))] [.hp 45 [] [.var 1] []] []) (.and (.imp (.not (.eq (.var 51) (.lit 0))) (.post [.blk 0 (ckCVs 1 ([Ck.ptr, Ck.int .i64, Ck.int .i64, Ck.int .u64, Ck.int .u64] ++ List.replicate 16 (Ck.int .u8)) ++ [.sl (.var 41) (.lit 0) (.var 43) (.var 44), .bool (.bvar 23)]) 81, .hp 47 [45] [.var 1] [], .hp 46 [] [.var 41] [], .hp 48 [] [.var 47] []] (.sv (.one (.int .i64 (.var 51)))))) (.imp (.eq (.var 51) (.lit 0)) (.and (.pre (.app 52 5 1 1 (.sl (.var 41) (.lit 0) (.var 43) (.var 44)) (.var 43) (.hp 46 [] [.var 41] []) (.seg 48 (.var 47) (.var 48) (.var 49)))) (.ext (.app 52 5 1 1 (.sl (.var 41) (.lit 0) (.var 43) (.var 44)) (.var 43) (.hp 46 [] [.var 41] []) (.seg 48 (.var 47) (.var 48) (.var 49))) (.back 0 0 [⟨40, 0, .int .i64 (.wrap .i64 (.add (.var 40) (.lit 1)))⟩, ⟨41, 0, .int .i64 (.var 52)⟩, ⟨43, 0, .int .i64 (.add (.var 43) (.var 49))⟩, ⟨44, 0, .int .i64 (.var 53)⟩] [(45, some 47), (46, some 52)])))))))) (.imp (.not (.lt (.var 43) (.wrap .i64 (.var 6)))) (.and (.e (.le (.lit (-1)) (.var 41))) (.and (.e (.le (.lit 0) (.var 6))) (.and (.e (.le (.var 6) (.var 44))) (.post [.blk 0 (ckCVs 1 ([Ck.ptr, Ck.int .i64, Ck.int .i64, Ck.int .u64, Ck.int .u64] ++ List.replicate 16 (Ck.int .u8)) ++ [.sl (.var 41) (.lit 0) (.var 6) (.var 44), .bool (.bvar 23)]) 81, .hp 45 [] [.var 1] [], .hp 46 [] [.var 41] []] (.sv (.one (.int .i64 (.lit 0))))))))))))
def loadΓ : List Sx.Spec := [readS]
theorem loadΓ_ok : ∀ t ∈ loadΓ, t.OK Tryd.prog := fun t ht => by
  rw [loadΓ, List.mem_singleton] at ht; subst ht; exact readS_ok
def loadW : Walk Tryd.prog loadΓ loadS.fn where
  Λ := fun p => if lp p then some ⟨0, [(3, TI .i64 (.var 40))], [(0, .blk 0 (ckCVs 1 logK ++ [.sl (.var 41) (.lit 0) (.var 43) (.var 44), .bool (.bvar 23)]) 81), (1, .hp 45 [] [.var 1] []), (2, .hp 46 [] [.var 41] [])], 47⟩ else none
  args := [TP (.var 0) (.lit 0)]
  mem := [.blk 0 (ckCVs 1 logK ++ [.sl (.lit (-1)) (.lit 0) (.lit 0) (.lit 0), .bool (.bvar 23)]) 81, .hp 24 [] [.var 1] []]
  nv := 25
  nd := loadNd
  ok := by kernel_rfl
theorem lg0 : loadΓ[0]? = some readS := rfl
theorem readR_in {D : DM} {i : Int} (h : D.has i = true) (hg : D.gone = false) : readR D i = (D.sector i, 0) := by
  unfold readR
  rw [if_neg (by simp [h]), if_neg (by simp [hg])]
def loadInv (D : DM) (L : LM) (dp : Value) (_ : Nat) (q : Env) : Prop := ∃ i : Nat, q.i 40 = i ∧ q.i 43 = 64 * i ∧ -1 ≤ q.i 41 ∧ 0 ≤ q.i 44 ∧ (i = 0 ∨ (64 * (i : Int) - 64 < L.size)) ∧ DiskAt (q.h 45) dp D ∧ OwB (q.h 46) 5 (.slice (slP (q.i 41) 0) (q.i 43).toNat (q.i 44).toNat) ((D.now.drop (64 * (L.frm + 2).toNat)).take (64 * i))
theorem loadS_ok : loadS.OK Tryd.prog := by
  refine spec_of_fn2 (Γ := loadΓ) loadΓ_ok ?_
  rintro xs Hs Rs hl1 hl2 hdis ⟨p, a, HL, HD, dp, L, D, rfl, rfl, rfl, hL, hD, hgone, hs0, hs1⟩
  have e1 : Rs = [] := List.length_eq_zero_iff.1 hl2
  subst e1
  obtain ⟨da, s, m, es, clock, hdp, hDi⟩ := id hD
  have hnl := hL.1.note
  obtain ⟨f0, f1⟩ := hL.1.frm
  have hnn := hDi.ok.n
  have hnow := hDi.ok.now
  have eB : ∀ (q : Env) (sl : CV), q.i 0 = a → (∀ k, k < 22 → q.i (1 + k) = (lInts da L).getD k 0) → q.b 23 = L.over → (Res.blk 0 (ckCVs 1 logK ++ [sl, .bool (.bvar 23)]) 81).hl q = Hl.one a (lObj dp (sl.ev q) L) := by
    intro q sl h0 h1 h2
    show Hl.one (q.i 0).toNat (.cells ((ckCVs 1 logK ++ [sl, .bool (.bvar 23)]).map (CV.ev q)).toArray _ (0, 0)) = _
    rw [List.map_append, logK_ev hL.1 h1, h0, Int.toNat_natCast]
    unfold lObj lCells
    rw [hdp, ← h2, List.append_assoc]; rfl
  refine ⟨loadW, ⟨fun k => if k = 0 then (a : Int) else (lInts da L).getD (k - 1) 0, fun _ => L.over, fun _ => .empty, fun _ => .tuple #[], fun _ => HD⟩, loadInv D L dp, fun _ q => (L.size - 64 * q.i 40 + 64).toNat, ?_, ⟨?_, ?_, ?_, ?_⟩, (fun _ h => nomatch h), ?_⟩
  · show [Value.pointer (slP (a : Int) 0)] = _; rw [dArg]
  · intro r hr ho
    simp only [loadW, List.mem_cons, List.mem_nil_iff, or_false] at hr
    rcases hr with rfl | rfl
    · refine ⟨HL, by simp, ?_⟩
      rw [eB _ _ rfl (fun k hk => by show (if 1 + k = 0 then (a : Int) else (lInts da L).getD (1 + k - 1) 0) = _; rw [if_neg (by omega), show 1 + k - 1 = k by omega]) rfl]
      intro b o hb
      obtain ⟨rfl, rfl⟩ := Hl.one_eq hb
      exact hL.2
    · exact ⟨HD, by simp, Hl.le_refl _⟩
  · intro r hr ho
    simp only [loadW, List.mem_cons, List.mem_nil_iff, or_false] at hr
    rcases hr with rfl | rfl <;> cases ho
  · have hd : HL.dis HD := hdis 0 1 _ _ (by decide) rfl rfl
    have hm : HL.mem a := by unfold Hl.mem; rw [hL.2]; rfl
    refine List.Pairwise.cons (fun r hr _ _ => ?_) (List.Pairwise.cons (fun r hr => by cases hr) List.Pairwise.nil)
    rw [List.mem_singleton] at hr
    subst hr
    exact Hl.one_dis.2 fun h => hd a ⟨hm, h⟩
  · intro r hr
    simp only [loadW, List.mem_cons, List.mem_nil_iff, or_false] at hr
    rcases hr with rfl | rfl
    · show (0 : Int) ≤ (a : Int); omega
    · trivial
  · show Nd.holds _ _ _ loadNd
    generalize hρ : (⟨fun k => if k = 0 then (a : Int) else (lInts da L).getD (k - 1) 0, fun _ => L.over, fun _ => .empty, fun _ => .tuple #[], fun _ => HD⟩ : Env) = ρ
    unfold loadNd
    simp only [Nd.holds, X.pre, X.rel, X.n, Src.ok, Src.len, Src.vals, true_and, and_true, if_true, Nat.mul_one, Nat.add_zero, Nat.reduceAdd, List.length_cons, List.length_nil, bT_tt, bT_ff, bT_bvar, bT_not, bT_and, bT_or, bT_ite, bT_lt, bT_le, bT_eq, bT_beq, bT_seq, bT_hB, bT_his, bT_hby, bT_hism, bT_hks, iev_lit, iev_var, iev_add, iev_sub, iev_mul, iev_wrap, iev_ite, iev_hI, iev_hP, iev_hmlen, sev_ite, sev_slit, sev_sof, sev_svar, TV.ev, SV.ev, CV.ev, List.map_cons, List.map_nil, Res.hl, cpTV, Cp.sv, Ck.cv, cpSVs, Cp.len, Ck.len, newHs_zero, newHs_one, roots_ne, lg0, rr0, rc0]
    have r0 : ρ.i 0 = a := by rw [← hρ]; rfl
    have rk : ∀ k, k < 22 → ρ.i (1 + k) = (lInts da L).getD k 0 := by
      intro k hk
      rw [← hρ]
      show (if 1 + k = 0 then (a : Int) else (lInts da L).getD (1 + k - 1) 0) = _
      rw [if_neg (by omega), show 1 + k - 1 = k by omega]
    have rb : ρ.b 23 = L.over := by rw [← hρ]
    have rh : ρ.h 24 = HD := by rw [← hρ]
    refine ⟨⟨0, rfl, rfl, Int.le_refl _, Int.le_refl _, Or.inl rfl, ?_, ⟨rfl, Or.inl ⟨rfl, rfl⟩⟩⟩, fun q g ⟨i, e40, e43, e41, e44, hi, hDq, hO⟩ => ?_⟩
    · show DiskAt (ρ.h 24) dp D
      rw [rh]; exact hD
    · have u1 : q.i 1 = da := by rw [g.i 1 (by omega)]; exact rk 0 (by omega)
      have u2 : q.i 2 = 0 := by rw [g.i 2 (by omega)]; exact rk 1 (by omega)
      have u3 : q.i 3 = L.frm := by rw [g.i 3 (by omega)]; exact rk 2 (by omega)
      have u6 : q.i 6 = L.size := by rw [g.i 6 (by omega)]; exact rk 5 (by omega)
      have ep : Value.pointer (slP (da : Int) 0) = dp := by rw [dArg, hdp]
      have es : IntKind.i64.wrap L.size = L.size := wrap_i64 (by omega) (by omega)
      rw [u1, u2, u3, u6, e40, e43, es, ep]
      refine ⟨by omega, fun hlt => ?_, fun hge => ⟨e41, hs0, ?_, fun hd => ?_⟩⟩
      · have ei : IntKind.i64.wrap (IntKind.i64.wrap (L.frm + 2) + i) = L.frm + 2 + i := by
          rw [wrap_i64 (n := L.frm + 2) (by omega) (by omega), wrap_i64 (by omega) (by omega)]
        rw [ei]
        have hh : D.has (L.frm + 2 + i) = true := by unfold DM.has; simp only [decide_eq_true_eq]; omega
        have hr := readR_in hh hgone
        have hsl := sector_length hDi.ok hh
        refine ⟨⟨dp, _, _, D, rfl, rfl, hDq⟩, fun q1 g1 ⟨F, ⟨p', i', H', D', H2, u, hx, hH, hD', hH2, hD2, hv, hOu⟩, hF, hn⟩ => ?_⟩
        cases hx
        cases hH
        have e := hD'.uniq hDq
        subst e
        have hF := hF trivial
        subst hF
        rw [hr] at hv hOu
        simp only [Value.tuple.injEq, Array.mk.injEq, List.cons.injEq, Value.int.injEq, true_and, and_true] at hv hH2
        obtain ⟨rfl, h51⟩ := hv
        obtain ⟨⟨n47, n48, n49, n50⟩, _⟩ := hn
        have n48 : 0 ≤ q1.i 48 := n48
        have n49 : 0 ≤ q1.i 49 := n49
        obtain ⟨e49, hc⟩ := hOu.rd.at n47 n48 n49
        have e49 : q1.i 49 = 64 := by rw [e49]; show (((D'.sector (L.frm + 2 + i)).length : Nat) : Int) = 64; rw [hsl]; rfl
        have hc : 0 ≤ q1.i 47 ∧ ∀ j z, (D'.sector (L.frm + 2 + i))[j]? = some z → (q1.h 48).cell (q1.i 47).toNat ((q1.i 48).toNat + j) = some (.int .u8 z) := by
          rcases hc with ⟨_, hc⟩ | hc
          · have hc : D'.sector (L.frm + 2 + i) = [] := hc
            rw [hc] at hsl; cases hsl
          · exact hc
        obtain ⟨p47, hc⟩ := hc
        have x43 : q1.i 43 = 64 * i := by rw [g1.i 43 (by omega), e43]
        rw [g1.h 46 (by omega), g1.i 41 (by omega), g1.i 44 (by omega), x43, e49]
        rw [e43] at hO
        have hTl : ((D'.now.drop (64 * (L.frm + 2).toNat)).take (64 * i)).length = 64 * i := by rw [List.length_take, List.length_drop]; omega
        have hO' : OwnsH (q.h 46) 5 1 (.slice (slP (q.i 41) 0) (64 * (i : Int)).toNat (q.i 44).toNat) (64 * (i : Int)).toNat (bys ((D'.now.drop (64 * (L.frm + 2).toNat)).take (64 * i))) := by
          unfold OwB at hO
          rw [hTl] at hO
          rw [show (64 * (i : Int)).toNat = 64 * i by omega] at hO ⊢
          exact hO
        refine ⟨fun h => absurd h51 h, fun _ => ⟨⟨⟨_, hO'⟩, by omega, Or.inl ⟨p47, n48, by omega, fun j hj => ?_⟩, by unfold maxLen; omega, by omega⟩, fun q2 g2 ⟨a1, a2, a3, _⟩ => ?_⟩⟩
        · have hj : j < (D'.sector (L.frm + 2 + i)).length := by have : (64 : Int).toNat = 64 := rfl; omega
          exact ⟨_, hc j _ (List.getElem?_eq_getElem hj), rfl⟩
        · have hseg : segVals (q1.h 48) (q1.i 47).toNat (q1.i 48).toNat (Int.toNat 64) = bys (D'.sector (L.frm + 2 + i)) := by
            unfold segVals
            apply List.ext_getElem?
            intro j
            rw [List.getElem?_map, bys_get]
            rcases Nat.lt_or_ge j 64 with hj | hj
            · rw [show (64 : Int).toNat = 64 from rfl, List.getElem?_range hj, Option.map_some, hc j _ (List.getElem?_eq_getElem (by omega)), List.getElem?_eq_getElem (by omega)]
              rfl
            · rw [List.getElem?_eq_none (by simpa using hj), List.getElem?_eq_none (by omega)]; rfl
          have hx := a3 _ hO'
          rw [hseg] at hx
          have hcat : (D'.now.drop (64 * (L.frm + 2).toNat)).take (64 * (i + 1)) = (D'.now.drop (64 * (L.frm + 2).toNat)).take (64 * i) ++ D'.sector (L.frm + 2 + i) := by
            rw [show 64 * (i + 1) = 64 * i + 64 by omega, List.take_add, List.drop_drop]
            unfold DM.sector
            rw [show 64 * (L.frm + 2).toNat + 64 * i = 64 * (L.frm + 2 + i).toNat by omega]
          have m40 : (assign q2 [⟨40, 0, .int .i64 (.wrap .i64 (.add (.var 40) (.lit 1)))⟩, ⟨41, 0, .int .i64 (.var 52)⟩, ⟨43, 0, .int .i64 (.add (.var 43) (.var 49))⟩, ⟨44, 0, .int .i64 (.var 53)⟩] [(45, some 47), (46, some 52)]).i 40 = i + 1 := by
            show IntKind.i64.wrap (q2.i 40 + 1) = _
            rw [g2.i 40 (by omega), g1.i 40 (by omega), e40, wrap_i64 (by omega) (by omega)]
          have m43 : (assign q2 [⟨40, 0, .int .i64 (.wrap .i64 (.add (.var 40) (.lit 1)))⟩, ⟨41, 0, .int .i64 (.var 52)⟩, ⟨43, 0, .int .i64 (.add (.var 43) (.var 49))⟩, ⟨44, 0, .int .i64 (.var 53)⟩] [(45, some 47), (46, some 52)]).i 43 = 64 * i + 64 := by
            show q2.i 43 + q2.i 49 = _
            rw [g2.i 43 (by omega), g2.i 49 (by omega), x43, e49]
          refine ⟨⟨i + 1, by rw [m40]; omega, by rw [m43]; omega, a1, a2, Or.inr (by omega), ?_, ?_⟩, by rw [m40]; omega⟩
          · show DiskAt (q2.h 47) dp D'
            rw [g2.h 47 (by omega), hH2]; exact hD2
          · rw [m43]
            show OwB (q2.h 52) _ (.slice (slP (q2.i 52) 0) (64 * (i : Int) + 64).toNat (q2.i 53).toNat) _
            rw [hcat]
            unfold OwB
            rw [bys_append, List.length_append, hTl, hsl]
            rw [show (64 * (i : Int)).toNat + Int.toNat 64 = 64 * i + 64 by have : (64 : Int).toNat = 64 := rfl; omega] at hx
            rw [show (64 * (i : Int) + 64).toNat = 64 * i + 64 by omega]
            exact hx
      · have := OwB.cap hO (by omega) e44
        omega
      · have hd02 := hd 0 2 _ _ (by decide) rfl rfl rfl
        have eb := eB q (.sl (.var 41) (.lit 0) (.var 6) (.var 44)) (by rw [g.i 0 (by omega), r0]) (fun k hk => by rw [g.i (1 + k) (by omega)]; exact rk k hk) (by rw [g.b 23 (by omega), rb])
        have ev : CV.ev q (.sl (.var 41) (.lit 0) (.var 6) (.var 44)) = .slice (slP (q.i 41) 0) L.size.toNat (q.i 44).toNat := by
          simp only [CV.ev, iev_var, iev_lit, u6]
        rw [ev] at eb
        refine ⟨[[0, 2], [1]], [], rfl, rfl, ⟨⟨fun _ => 0, fun _ => false, fun _ => .empty, fun _ => .tuple #[], fun _ => Hl.none⟩, rfl, trivial, trivial⟩, _, a, HL, HD, dp, L, D, _, _, rfl, rfl, rfl, hL, hD, rfl, ?_, ?_, rfl⟩
        · show DiskAt (hls [q.h 45]) _ _
          rw [hls_one]; exact hDq
        · refine ⟨a, .slice (slP (q.i 41) 0) L.size.toNat (q.i 44).toNat, q.h 46, rfl, hL.1, ?_, ?_, ?_⟩
          · rw [e43] at hO
            have hTl : ((D.now.drop (64 * (L.frm + 2).toNat)).take (64 * i)).length = 64 * i := by
              rw [List.length_take, List.length_drop]
              rcases hi with rfl | hi <;> omega
            have := OwB.pre hO e41 hs0 (by rw [hTl]; omega)
            rw [List.take_take, show min L.size.toNat (64 * i) = L.size.toNat by omega] at this
            exact this
          · rw [← eb]; exact hd02
          · exact congrArg (fun z => hls [z, q.h 46]) eb
end Go.Proofs.YtomdimlnggpgbaaDoor.D
namespace Go.Proofs.YtomdimlnggpgbaaDoor.D
open Go Go.Sx
theorem bigB_range (n c : Int) : 0 ≤ bigB n c ∧ bigB n c < 18446744073709551616 := by
  unfold bigB
  have h : ∀ x : Int, 0 ≤ IntKind.u64.wrap x ∧ IntKind.u64.wrap x < 18446744073709551616 := fun x => ⟨Int.emod_nonneg _ (by decide), Int.emod_lt_of_pos _ (by decide)⟩
  exact h _
theorem bigI_range (l : List Int) : 0 ≤ bigI l ∧ bigI l < 18446744073709551616 := by
  have h : ∀ (l : List Int) (n : Int), (0 ≤ n ∧ n < 18446744073709551616) → 0 ≤ l.foldl bigB n ∧ l.foldl bigB n < 18446744073709551616 := by
    intro l
    induction l with
    | nil => exact fun n h => h
    | cons c l ih => exact fun n _ => ih _ (bigB_range n c)
  exact h l 0 (by omega)
theorem lread_head {D : DM} (hD : D.ok) (frm : Int) {most : Int} (hm : 0 ≤ most) (place : Int) : headOK (lreadR D frm most place).1 ∧ (lreadR D frm most place).1.getD 1 0 ≤ most := by
  have hz : headOK zeros18 ∧ zeros18.getD 1 0 ≤ most := ⟨⟨rfl, ⟨Int.le_refl _, by decide⟩, Int.le_refl _, by decide⟩, hm⟩
  unfold lreadR
  split
  · exact hz
  · rename_i h
    have h : (readR D (frm + place)).2 = 0 := by simpa using h
    obtain ⟨_, _, e, hl⟩ := readR_ok hD h
    split
    · rename_i hg
      have r0 := bigI_range (((readR D (frm + place)).1.take 32).take 8)
      have r1 := bigI_range ((((readR D (frm + place)).1.take 32).drop 8).take 8)
      refine ⟨⟨?_, r0, r1⟩, hg.2.2⟩
      unfold headI
      rw [e]
      simp only [List.length_append, List.length_cons, List.length_nil, List.length_take, List.length_drop, hl]
      rfl
    · exact hz
theorem lread_code {D : DM} {frm most place : Int} (h : D.has (frm + place) = true) : (lreadR D frm most place).2 = if D.gone then 5 else 0 := by
  unfold lreadR readR
  rw [h]
  cases D.gone with
  | true => simp
  | false => simp; split <;> rfl
def headL (frm most : Int) (h : List Int) : LM := ⟨frm, most, h.getD 0 0, h.getD 1 0, h.drop 2, false⟩
def openE (D : DM) (frm n : Int) : Int := if n < 3 ∨ frm < 0 ∨ (D.n : Int) < frm ∨ (D.n : Int) - frm < n then 1 else if D.gone then 5 else 0
def openH (D : DM) (frm n : Int) : List Int := if (lreadR D frm (64 * (n - 2)) 0).1.getD 0 0 < (lreadR D frm (64 * (n - 2)) 1).1.getD 0 0 then (lreadR D frm (64 * (n - 2)) 1).1 else (lreadR D frm (64 * (n - 2)) 0).1
def openL (D : DM) (frm n : Int) : LM := headL frm (64 * (n - 2)) (openH D frm n)
def openB (D : DM) (frm n : Int) : List Int := bytesAt D frm (openL D frm n).size
def openS : Sx.Spec where
  fn := 15
  own := [.arg 0]
  rd := []
  res := [.one .ptr, .one (.int .i64)]
  links := [0]
  pre := fun xs Hs Rs => ∃ dp frm n H D, xs = [dp, .int .i64 frm, .int .i64 n] ∧ Hs = [H] ∧ DiskAt H dp D
  post := fun xs Hs Rs v Hs' F => ∃ dp frm n H D H' pv, xs = [dp, .int .i64 frm, .int .i64 n] ∧ Hs = [H] ∧ DiskAt H dp D ∧ Hs' = [H'] ∧ DiskAt H' dp D ∧ v = .tuple #[pv, .int .i64 (openE D frm n)] ∧ (openE D frm n = 0 → LogAt F pv dp (openL D frm n) (openB D frm n)) ∧ (openE D frm n ≠ 0 → pv = .pointer none)
def openNd : Nd := .and (.imp (.not (.lt (.var 2) (.lit 3))) (.and (.imp (.not (.lt (.var 1) (.lit 0))) (.and (.pre (.call 0 4 [.sv (.one (.hptr (.var 0) (.lit 0)))] [.hp 3 [] [.var 0] []] [])) (.ext (.call 0 4 [.sv (.one (.hptr (.var 0) (.lit 0)))] [.hp 3 [] [.var 0] []] []) (.and (.imp (.not (.lt (.var 4) (.var 1))) (.and (.pre (.call 0 6 [.sv (.one (.hptr (.var 0) (.lit 0)))] [.hp 4 [3] [.var 0] []] [])) (.ext (.call 0 6 [.sv (.one (.hptr (.var 0) (.lit 0)))] [.hp 4 [3] [.var 0] []] []) (.and (.imp (.lt (.wrap .i64 (.sub (.var 6) (.var 1))) (.var 2)) (.post [.hp 6 [4, 3] [.var 0] []] (.tup [.one (.hptr (.lit (-1)) (.lit 0)), .one (.int .i64 (.lit 1))]))) (.imp (.not (.lt (.wrap .i64 (.sub (.var 6) (.var 1))) (.var 2))) (.ext (.alloc 8) (.and (.pre (.call 1 9 [.sv (.one (.hptr (.var 8) (.lit 0))), .sv (.one (.int .u64 (.lit 0)))] [.hp 6 [4, 3] [.var 0] []] [.blk 8 ([.hptr (.var 0) (.lit 0), .int .i64 (.var 1), .int .i64 (.wrap .i64 (.mul (.lit 64) (.wrap .i64 (.sub (.var 2) (.lit 2))))), .int .u64 (.lit 0), .int .u64 (.lit 0)] ++ List.replicate 16 (CV.int .u8 (.lit 0)) ++ [.sl (.lit (-1)) (.lit 0) (.lit 0) (.lit 0), .bool .ff]) 81])) (.ext (.call 1 9 [.sv (.one (.hptr (.var 8) (.lit 0))), .sv (.one (.int .u64 (.lit 0)))] [.hp 6 [4, 3] [.var 0] []] [.blk 8 ([.hptr (.var 0) (.lit 0), .int .i64 (.var 1), .int .i64 (.wrap .i64 (.mul (.lit 64) (.wrap .i64 (.sub (.var 2) (.lit 2))))), .int .u64 (.lit 0), .int .u64 (.lit 0)] ++ List.replicate 16 (CV.int .u8 (.lit 0)) ++ [.sl (.lit (-1)) (.lit 0) (.lit 0) (.lit 0), .bool .ff]) 81]) (.ext (.alloc 28) (.and (.imp (.not (.eq (.var 27) (.lit 0))) (.post [.hp 9 [6, 4, 3] [.var 0] [], .dead, .dead] (.tup [.one (.hptr (.lit (-1)) (.lit 0)), .one (.int .i64 (.var 27))]))) (.imp (.eq (.var 27) (.lit 0)) (.and (.imp (.lt (.lit 0) (.var 9)) (.and (.pre (.call 1 29 [.sv (.one (.hptr (.var 8) (.lit 0))), .sv (.one (.int .u64 (.lit 1)))] [.hp 9 [6, 4, 3] [.var 0] []] [.blk 8 ([.hptr (.var 0) (.lit 0), .int .i64 (.var 1), .int .i64 (.wrap .i64 (.mul (.lit 64) (.wrap .i64 (.sub (.var 2) (.lit 2)))))] ++ ckCVs 9 ([Ck.int .u64, Ck.int .u64] ++ List.replicate 16 (Ck.int .u8)) ++ [.sl (.lit (-1)) (.lit 0) (.lit 0) (.lit 0), .bool .ff]) 81])) (.ext (.call 1 29 [.sv (.one (.hptr (.var 8) (.lit 0))), .sv (.one (.int .u64 (.lit 1)))] [.hp 9 [6, 4, 3] [.var 0] []] [.blk 8 ([.hptr (.var 0) (.lit 0), .int .i64 (.var 1), .int .i64 (.wrap .i64 (.mul (.lit 64) (.wrap .i64 (.sub (.var 2) (.lit 2)))))] ++ ckCVs 9 ([Ck.int .u64, Ck.int .u64] ++ List.replicate 16 (Ck.int .u8)) ++ [.sl (.lit (-1)) (.lit 0) (.lit 0) (.lit 0), .bool .ff]) 81]) (.ext (.alloc 48) (.and (.imp (.not (.eq (.var 47) (.lit 0))) (.post [.hp 29 [9, 6, 4, 3] [.var 0] [], .dead, .dead, .dead] (.tup [.one (.hptr (.lit (-1)) (.lit 0)), .one (.int .i64 (.var 47))]))) (.imp (.eq (.var 47) (.lit 0)) (.and (.imp (.lt (.var 9) (.var 29)) (.and (.pre (.call 2 49 [.sv (.one (.hptr (.var 8) (.lit 0)))] [.blk 8 ([.hptr (.var 0) (.lit 0), .int .i64 (.var 1), .int .i64 (.wrap .i64 (.mul (.lit 64) (.wrap .i64 (.sub (.var 2) (.lit 2)))))] ++ ckCVs 29 ([Ck.int .u64, Ck.int .u64] ++ List.replicate 16 (Ck.int .u8)) ++ [.sl (.lit (-1)) (.lit 0) (.lit 0) (.lit 0), .bool .ff]) 81, .hp 29 [9, 6, 4, 3] [.var 0] []] [])) (.ext (.call 2 49 [.sv (.one (.hptr (.var 8) (.lit 0)))] [.blk 8 ([.hptr (.var 0) (.lit 0), .int .i64 (.var 1), .int .i64 (.wrap .i64 (.mul (.lit 64) (.wrap .i64 (.sub (.var 2) (.lit 2)))))] ++ ckCVs 29 ([Ck.int .u64, Ck.int .u64] ++ List.replicate 16 (Ck.int .u8)) ++ [.sl (.lit (-1)) (.lit 0) (.lit 0) (.lit 0), .bool .ff]) 81, .hp 29 [9, 6, 4, 3] [.var 0] []] []) (.and (.imp (.not (.eq (.var 49) (.lit 0))) (.post [.hp 50 [29, 9, 6, 4, 3] [.var 0] [], .hp 49 [] [.var 8] [], .dead, .dead] (.tup [.one (.hptr (.lit (-1)) (.lit 0)), .one (.int .i64 (.var 49))]))) (.imp (.eq (.var 49) (.lit 0)) (.post [.hp 50 [29, 9, 6, 4, 3] [.var 0] [], .hp 49 [] [.var 8] [], .dead, .dead] (.tup [.one (.hptr (.var 8) (.lit 0)), .one (.int .i64 (.lit 0))]))))))) (.imp (.not (.lt (.var 9) (.var 29))) (.and (.pre (.call 2 49 [.sv (.one (.hptr (.var 8) (.lit 0)))] [.blk 8 ([.hptr (.var 0) (.lit 0), .int .i64 (.var 1), .int .i64 (.wrap .i64 (.mul (.lit 64) (.wrap .i64 (.sub (.var 2) (.lit 2)))))] ++ ckCVs 9 ([Ck.int .u64, Ck.int .u64] ++ List.replicate 16 (Ck.int .u8)) ++ [.sl (.lit (-1)) (.lit 0) (.lit 0) (.lit 0), .bool .ff]) 81, .hp 29 [9, 6, 4, 3] [.var 0] []] [])) (.ext (.call 2 49 [.sv (.one (.hptr (.var 8) (.lit 0)))] [.blk 8 ([.hptr (.var 0) (.lit 0), .int .i64 (.var 1), .int .i64 (.wrap .i64 (.mul (.lit 64) (.wrap .i64 (.sub (.var 2) (.lit 2)))))] ++ ckCVs 9 ([Ck.int .u64, Ck.int .u64] ++ List.replicate 16 (Ck.int .u8)) ++ [.sl (.lit (-1)) (.lit 0) (.lit 0) (.lit 0), .bool .ff]) 81, .hp 29 [9, 6, 4, 3] [.var 0] []] []) (.and (.imp (.not (.eq (.var 49) (.lit 0))) (.post [.hp 50 [29, 9, 6, 4, 3] [.var 0] [], .hp 49 [] [.var 8] [], .dead, .dead] (.tup [.one (.hptr (.lit (-1)) (.lit 0)), .one (.int .i64 (.var 49))]))) (.imp (.eq (.var 49) (.lit 0)) (.post [.hp 50 [29, 9, 6, 4, 3] [.var 0] [], .hp 49 [] [.var 8] [], .dead, .dead] (.tup [.one (.hptr (.var 8) (.lit 0)), .one (.int .i64 (.lit 0))])))))))))))))) (.imp (.not (.lt (.lit 0) (.var 9))) (.and (.pre (.call 1 29 [.sv (.one (.hptr (.var 8) (.lit 0))), .sv (.one (.int .u64 (.lit 1)))] [.hp 9 [6, 4, 3] [.var 0] []] [.blk 8 ([.hptr (.var 0) (.lit 0), .int .i64 (.var 1), .int .i64 (.wrap .i64 (.mul (.lit 64) (.wrap .i64 (.sub (.var 2) (.lit 2)))))] ++ ckCVs 9 ([Ck.int .u64, Ck.int .u64] ++ List.replicate 16 (Ck.int .u8)) ++ [.sl (.lit (-1)) (.lit 0) (.lit 0) (.lit 0), .bool .ff]) 81])) (.ext (.call 1 29 [.sv (.one (.hptr (.var 8) (.lit 0))), .sv (.one (.int .u64 (.lit 1)))] [.hp 9 [6, 4, 3] [.var 0] []] [.blk 8 ([.hptr (.var 0) (.lit 0), .int .i64 (.var 1), .int .i64 (.wrap .i64 (.mul (.lit 64) (.wrap .i64 (.sub (.var 2) (.lit 2)))))] ++ ckCVs 9 ([Ck.int .u64, Ck.int .u64] ++ List.replicate 16 (Ck.int .u8)) ++ [.sl (.lit (-1)) (.lit 0) (.lit 0) (.lit 0), .bool .ff]) 81]) (.ext (.alloc 48) (.and (.imp (.not (.eq (.var 47) (.lit 0))) (.post [.hp 29 [9, 6, 4, 3] [.var 0] [], .dead, .dead, .dead] (.tup [.one (.hptr (.lit (-1)) (.lit 0)), .one (.int .i64 (.var 47))]))) (.imp (.eq (.var 47) (.lit 0)) (.and (.imp (.lt (.var 9) (.var 29)) (.and (.pre (.call 2 49 [.sv (.one (.hptr (.var 8) (.lit 0)))] [.blk 8 ([.hptr (.var 0) (.lit 0), .int .i64 (.var 1), .int .i64 (.wrap .i64 (.mul (.lit 64) (.wrap .i64 (.sub (.var 2) (.lit 2)))))] ++ ckCVs 29 ([Ck.int .u64, Ck.int .u64] ++ List.replicate 16 (Ck.int .u8)) ++ [.sl (.lit (-1)) (.lit 0) (.lit 0) (.lit 0), .bool .ff]) 81, .hp 29 [9, 6, 4, 3] [.var 0] []] [])) (.ext (.call 2 49 [.sv (.one (.hptr (.var 8) (.lit 0)))] [.blk 8 ([.hptr (.var 0) (.lit 0), .int .i64 (.var 1), .int .i64 (.wrap .i64 (.mul (.lit 64) (.wrap .i64 (.sub (.var 2) (.lit 2)))))] ++ ckCVs 29 ([Ck.int .u64, Ck.int .u64] ++ List.replicate 16 (Ck.int .u8)) ++ [.sl (.lit (-1)) (.lit 0) (.lit 0) (.lit 0), .bool .ff]) 81, .hp 29 [9, 6, 4, 3] [.var 0] []] []) (.and (.imp (.not (.eq (.var 49) (.lit 0))) (.post [.hp 50 [29, 9, 6, 4, 3] [.var 0] [], .hp 49 [] [.var 8] [], .dead, .dead] (.tup [.one (.hptr (.lit (-1)) (.lit 0)), .one (.int .i64 (.var 49))]))) (.imp (.eq (.var 49) (.lit 0)) (.post [.hp 50 [29, 9, 6, 4, 3] [.var 0] [], .hp 49 [] [.var 8] [], .dead, .dead] (.tup [.one (.hptr (.var 8) (.lit 0)), .one (.int .i64 (.lit 0))]))))))) (.imp (.not (.lt (.var 9) (.var 29))) (.and (.pre (.call 2 49 [.sv (.one (.hptr (.var 8) (.lit 0)))] [.blk 8 ([.hptr (.var 0) (.lit 0), .int .i64 (.var 1), .int .i64 (.wrap .i64 (.mul (.lit 64) (.wrap .i64 (.sub (.var 2) (.lit 2)))))] ++ ckCVs 9 ([Ck.int .u64, Ck.int .u64] ++ List.replicate 16 (Ck.int .u8)) ++ [.sl (.lit (-1)) (.lit 0) (.lit 0) (.lit 0), .bool .ff]) 81, .hp 29 [9, 6, 4, 3] [.var 0] []] [])) (.ext (.call 2 49 [.sv (.one (.hptr (.var 8) (.lit 0)))] [.blk 8 ([.hptr (.var 0) (.lit 0), .int .i64 (.var 1), .int .i64 (.wrap .i64 (.mul (.lit 64) (.wrap .i64 (.sub (.var 2) (.lit 2)))))] ++ ckCVs 9 ([Ck.int .u64, Ck.int .u64] ++ List.replicate 16 (Ck.int .u8)) ++ [.sl (.lit (-1)) (.lit 0) (.lit 0) (.lit 0), .bool .ff]) 81, .hp 29 [9, 6, 4, 3] [.var 0] []] []) (.and (.imp (.not (.eq (.var 49) (.lit 0))) (.post [.hp 50 [29, 9, 6, 4, 3] [.var 0] [], .hp 49 [] [.var 8] [], .dead, .dead] (.tup [.one (.hptr (.lit (-1)) (.lit 0)), .one (.int .i64 (.var 49))]))) (.imp (.eq (.var 49) (.lit 0)) (.post [.hp 50 [29, 9, 6, 4, 3] [.var 0] [], .hp 49 [] [.var 8] [], .dead, .dead] (.tup [.one (.hptr (.var 8) (.lit 0)), .one (.int .i64 (.lit 0))])))))))))))))))))))))))))) (.imp (.lt (.var 4) (.var 1)) (.post [.hp 4 [3] [.var 0] []] (.tup [.one (.hptr (.lit (-1)) (.lit 0)), .one (.int .i64 (.lit 1))]))))))) (.imp (.lt (.var 1) (.lit 0)) (.post [.hp 3 [] [.var 0] []] (.tup [.one (.hptr (.lit (-1)) (.lit 0)), .one (.int .i64 (.lit 1))]))))) (.imp (.lt (.var 2) (.lit 3)) (.post [.hp 3 [] [.var 0] []] (.tup [.one (.hptr (.lit (-1)) (.lit 0)), .one (.int .i64 (.lit 1))])))
def openΓ : List Sx.Spec := [sectorsS, lreadS, loadS]
theorem openΓ_ok : ∀ t ∈ openΓ, t.OK Tryd.prog := fun t ht => by
  simp only [openΓ, List.mem_cons, List.mem_nil_iff, or_false] at ht
  rcases ht with rfl | rfl | rfl
  · exact sectorsS_ok
  · exact lreadS_ok
  · exact loadS_ok
def openW : Walk Tryd.prog openΓ openS.fn where
  Λ := noLoops
  args := [TP (.var 0) (.lit 0), TI .i64 (.var 1), TI .i64 (.var 2)]
  mem := [.hp 3 [] [.var 0] []]
  nv := 4
  nd := openNd
  ok := by kernel_rfl
theorem og0 : openΓ[0]? = some sectorsS := rfl
theorem og1 : openΓ[1]? = some lreadS := rfl
theorem og2 : openΓ[2]? = some loadS := rfl
theorem or0 : sectorsS.res = [.one (.int .i64)] := rfl
theorem or1 : lreadS.res = [.agg hdk, .one (.int .i64)] := rfl
theorem or2 : loadS.res = [.one (.int .i64)] := rfl
def oCs (l : List CV) : List CV := [.hptr (.var 0) (.lit 0), .int .i64 (.var 1), .int .i64 (.wrap .i64 (.mul (.lit 64) (.wrap .i64 (.sub (.var 2) (.lit 2)))))] ++ l ++ [.sl (.lit (-1)) (.lit 0) (.lit 0) (.lit 0), .bool .ff]
theorem oBlk {q : Env} {l : List CV} {da : Nat} {frm n : Int} {h : List Int} (h0 : q.i 0 = da) (h1 : q.i 1 = frm) (h2 : q.i 2 = n) (hn : 3 ≤ n ∧ n ≤ 16384) (hh : h.length = 18) (hl : l.map (CV.ev q) = hdV h) :
    (Res.blk 8 (oCs l) 81).hl q = Hl.one (q.i 8).toNat (lObj (.pointer (some ⟨da, 0, none⟩)) (.slice none 0 0) (headL frm (64 * (n - 2)) h)) := by
  show Hl.one (q.i 8).toNat (.cells ((oCs l).map (CV.ev q)).toArray _ (0, 0)) = _
  have e : (oCs l).map (CV.ev q) = lCells (.pointer (some ⟨da, 0, none⟩)) (.slice none 0 0) (headL frm (64 * (n - 2)) h) := by
    unfold oCs
    rw [List.map_append, List.map_append, hl]
    have ep : Value.pointer (slP (q.i 0) 0) = .pointer (some ⟨da, 0, none⟩) := by rw [h0, dArg]
    have em : IntKind.i64.wrap (64 * IntKind.i64.wrap (q.i 2 - 2)) = 64 * (n - 2) := by
      rw [h2, wrap_i64 (n := n - 2) (by omega) (by omega), wrap_i64 (by omega) (by omega)]
    show [Value.pointer (slP (q.i 0) 0), Value.int .i64 (q.i 1), Value.int .i64 (IntKind.i64.wrap (64 * IntKind.i64.wrap (q.i 2 - 2)))] ++ hdV h ++ [Value.slice (slP (-1) 0) 0 0, Value.bool false] = _
    rw [ep, em, h1, slP_nil]
    unfold lCells headL hdV
    simp only [List.cons_append, List.nil_append, List.append_assoc]
  rw [e]; rfl
theorem hd_first {q : Env} {n : Nat} {h : List Int} (e : (ckCVs n hdk).map (CV.ev q) = hdV h) : q.i n = h.getD 0 0 := by
  have := congrArg (fun l => l[0]?) e
  simpa [hdk, ckCVs, Ck.cv, CV.ev, hdV, iev_var] using this
theorem headL_ok {frm n : Int} {h : List Int} (hf : 0 ≤ frm ∧ frm ≤ 16384) (hn : 3 ≤ n ∧ n ≤ 16384) (hh : h.length = 18) : (headL frm (64 * (n - 2)) h).ok := ⟨hf, ⟨by show 0 ≤ 64 * (n - 2); omega, by show 64 * (n - 2) ≤ _; omega⟩, by show (h.drop 2).length = 16; rw [List.length_drop]; omega⟩
theorem openS_ok : openS.OK Tryd.prog := by
  refine Spec.of_fn (Γ := openΓ) openΓ_ok ?_
  rintro xs Hs Rs hl1 hl2 ⟨dp, frm, n, H, D, rfl, rfl, hD⟩
  have e1 : Rs = [] := List.length_eq_zero_iff.1 hl2
  subst e1
  obtain ⟨da, s, m, es, clock, hdp, hDi⟩ := id hD
  have hDn := hDi.ok.n
  refine ⟨openW, envI [da, frm, n] false [Hl.none, Hl.none, Hl.none, H], fun _ _ => True, fun _ _ => 0, ?_, ⟨?_, ?_, ?_, ?_⟩, (fun _ h => nomatch h), ?_⟩
  · show [Value.pointer (slP (da : Int) 0), Value.int .i64 frm, Value.int .i64 n] = _; rw [dArg, hdp]
  · intro r hr ho
    simp [openW] at hr
    subst hr
    exact ⟨H, by simp, Hl.le_refl _⟩
  · intro r hr ho
    simp [openW] at hr
    subst hr; cases ho
  · simp [openW]
  · intro r hr
    simp [openW] at hr
    subst hr; trivial
  · show Nd.holds _ _ _ openNd
    generalize hρ : envI [(da : Int), frm, n] false [Hl.none, Hl.none, Hl.none, H] = ρ
    have v0 : ρ.i 0 = da := by rw [← hρ]; rfl
    have v1 : ρ.i 1 = frm := by rw [← hρ]; rfl
    have v2 : ρ.i 2 = n := by rw [← hρ]; rfl
    have w3 : ρ.h 3 = H := by rw [← hρ]; rfl
    have ep : Value.pointer (slP (da : Int) 0) = dp := by rw [dArg, hdp]
    have bad : ∀ (q : Env) (k : Nat) (vs : List Nat) (t : Mem) (x : E) (e : Int), DiskAt (q.h k) dp D → iev q x = e → openE D frm n = e → e ≠ 0 →
        postOf openS [dp, .int .i64 frm, .int .i64 n] [H] [] q (.hp k vs [.var 0] [] :: t) (.tup [.one (.hptr (.lit (-1)) (.lit 0)), .one (.int .i64 x)]) := by
      intro q k vs t x e hq hx he hne _
      refine ⟨[[0]], [], rfl, rfl, ⟨⟨fun j => [-1, 0, e].getD j 0, fun _ => false, fun _ => .empty, fun _ => .tuple #[], fun _ => Hl.none⟩, ?_, ⟨by show (-1 : Int) ≤ -1; omega, Int.le_refl _⟩, trivial, trivial⟩, dp, frm, n, H, D, _, .pointer none, rfl, rfl, hD, rfl, ?_, ?_, fun h => absurd (he.symm.trans h) hne, fun _ => rfl⟩
      · subst hx; rfl
      · show DiskAt (hls [q.h k]) _ _
        rw [hls_one]; exact hq
      · rw [he, ← hx]; rfl
    unfold openNd
    simp only [Nd.holds, X.pre, X.rel, X.n, Src.ok, Src.len, Src.vals, true_and, and_true, if_true, Nat.mul_one, Nat.add_zero, Nat.reduceAdd, List.length_cons, List.length_nil, bT_tt, bT_ff, bT_bvar, bT_not, bT_and, bT_or, bT_ite, bT_lt, bT_le, bT_eq, bT_beq, bT_seq, bT_hB, bT_his, bT_hby, bT_hism, bT_hks, iev_lit, iev_var, iev_add, iev_sub, iev_mul, iev_wrap, iev_ite, iev_hI, iev_hP, iev_hmlen, sev_ite, sev_slit, sev_sof, sev_svar, TV.ev, SV.ev, CV.ev, List.map_cons, List.map_nil, Res.hl, cpTV, Cp.sv, Ck.cv, cpSVs, Cp.len, Ck.len, newHs_zero, newHs_one, roots_ne, og0, og1, og2, or0, or1, or2]
    rw [v0, v1, v2, w3, ep]
    refine ⟨fun h3 => ⟨fun h0 => ⟨⟨dp, H, D, rfl, rfl, hD⟩, fun q1 g1 ⟨F, ⟨p', H', D', H2, hx, hH, hD', hH2, hD2, hv⟩, _, _⟩ => ?_⟩, fun h0 => bad _ 3 _ _ _ 1 (by rw [w3]; exact hD) (iev_lit _ _) (by unfold openE; rw [if_pos (Or.inr (Or.inl h0))]) (by decide)⟩, fun h3 => bad _ 3 _ _ _ 1 (by rw [w3]; exact hD) (iev_lit _ _) (by unfold openE; rw [if_pos (Or.inl h3)]) (by decide)⟩
    cases hx
    cases hH
    have e := hD'.uniq hD
    subst e
    simp only [Value.int.injEq, true_and, List.cons.injEq, and_true] at hv hH2
    rw [← hH2] at hD2
    have hv : q1.i 4 = D'.n := hv
    rw [g1.i 0 (by omega), g1.i 1 (by omega), v0, v1, hv, ep]
    refine ⟨fun hlt => ⟨⟨dp, _, D', rfl, rfl, hD2⟩, fun q2 g2 ⟨F, ⟨p', H', D1, H3, hx, hH, hD', hH3, hD3, hv3⟩, _, _⟩ => ?_⟩, fun hlt => bad _ 4 _ _ _ 1 hD2 (iev_lit _ _) (by unfold openE; rw [if_pos (Or.inr (Or.inr (Or.inl hlt)))]) (by decide)⟩
    cases hx
    cases hH
    have e := hD'.uniq hD2
    subst e
    simp only [Value.int.injEq, true_and, List.cons.injEq, and_true] at hv3 hH3
    rw [← hH3] at hD3
    have hv3 : q2.i 6 = D1.n := hv3
    have h3 : 3 ≤ n := by omega
    have h0 : 0 ≤ frm := by omega
    have hlt : frm ≤ D1.n := by omega
    have esub : IntKind.i64.wrap ((D1.n : Int) - frm) = D1.n - frm := wrap_i64 (by omega) (by omega)
    rw [g2.i 1 (by omega), g2.i 2 (by omega), g1.i 1 (by omega), g1.i 2 (by omega), v1, v2, hv3, esub]
    refine ⟨fun hr => bad _ 6 _ _ _ 1 hD3 (iev_lit _ _) (by unfold openE; rw [if_pos (Or.inr (Or.inr (Or.inr hr)))]) (by decide), fun hr q3 g3 p8 => ?_⟩
    have hr : n ≤ D1.n - frm := by omega
    have G3 : Agree 4 ρ q3 := (g1.trans (g2.mono (by omega))).trans (g3.mono (by omega))
    have hn16 : 3 ≤ n ∧ n ≤ 16384 := ⟨h3, by omega⟩
    have hf16 : 0 ≤ frm ∧ frm ≤ 16384 := ⟨h0, by omega⟩
    have hm0 : 0 ≤ 64 * (n - 2) := by omega
    have ep8 : ∀ q : Env, 0 ≤ q.i 8 → Value.pointer (slP (q.i 8) 0) = .pointer (some ⟨(q.i 8).toNat, 0, none⟩) := fun q h => by rw [slP_pos h]; rfl
    have rd : ∀ (q : Env) (l : List CV) (h : List Int), Agree 4 ρ q → h.length = 18 → l.map (CV.ev q) = hdV h → 0 ≤ q.i 8 →
        LogIn ((Res.blk 8 (oCs l) 81).hl q) (q.i 8).toNat dp (.slice none 0 0) (headL frm (64 * (n - 2)) h) := by
      intro q l h hq hh hl h8
      refine ⟨headL_ok hf16 hn16 hh, ?_⟩
      rw [oBlk (by rw [hq.i 0 (by omega), v0]) (by rw [hq.i 1 (by omega), v1]) (by rw [hq.i 2 (by omega), v2]) hn16 hh hl, hdp]
      exact Hl.one_self _ _
    have call : ∀ (q : Env) (l : List CV) (h : List Int) (k : Nat) (place : Int), Agree 4 ρ q → h.length = 18 → l.map (CV.ev q) = hdV h → 0 ≤ q.i 8 → DiskAt (q.h k) dp D1 → (place = 0 ∨ place = 1) →
        lreadS.pre [.pointer (slP (q.i 8) 0), .int .u64 place] [q.h k] [(Res.blk 8 (oCs l) 81).hl q] := by
      intro q l h k place hq hh hl h8 hd hp
      exact ⟨_, place, _, _, dp, _, _, D1, rfl, rfl, rfl, ⟨_, ep8 q h8, rd q l h hq hh hl h8⟩, hd, hp⟩
    have back : ∀ (q : Env) (l : List CV) (h : List Int) (k : Nat) (place : Int) (v : Value) (H' F : Hl), Agree 4 ρ q → h.length = 18 → l.map (CV.ev q) = hdV h → 0 ≤ q.i 8 → DiskAt (q.h k) dp D1 →
        lreadS.post [.pointer (slP (q.i 8) 0), .int .u64 place] [q.h k] [(Res.blk 8 (oCs l) 81).hl q] v [H'] F →
        DiskAt H' dp D1 ∧ v = .tuple #[.agg (hdV (lreadR D1 frm (64 * (n - 2)) place).1).toArray, .int .i64 (lreadR D1 frm (64 * (n - 2)) place).2] := by
      intro q l h k place v H' F hq hh hl h8 hd ⟨p', place', Hx, R, dp', sl', L', Dx, H'', hx, hH, hR, hL, hDx, hH', hDy, hvq⟩
      cases hx
      cases hH
      have hR : (Res.blk 8 (oCs l) 81).hl q = R := by simpa using hR
      subst hR
      obtain ⟨e1, e2, e3⟩ := hL.uniq ⟨_, ep8 q h8, rd q l h hq hh hl h8⟩
      subst e1 e2 e3
      have e := hDx.uniq hd
      subst e
      simp only [List.cons.injEq, and_true] at hH'
      subst hH'
      exact ⟨hDy, hvq⟩
    have inr : ∀ place : Int, place = 0 ∨ place = 1 → D1.has (frm + place) = true := by
      intro place hp
      unfold DM.has
      simp only [decide_eq_true_eq]
      omega
    have oE : openE D1 frm n = if D1.gone then 5 else 0 := by
      unfold openE
      rw [if_neg (by omega)]
    have leaf : ∀ (q : Env) (l : List CV) (h : List Int), Agree 4 ρ q → headOK h → h.getD 1 0 ≤ 64 * (n - 2) → l.map (CV.ev q) = hdV h → 0 ≤ q.i 8 → DiskAt (q.h 29) dp D1 → D1.gone = false → openH D1 frm n = h →
        (loadS.pre [.pointer (slP (q.i 8) 0)] [(Res.blk 8 (oCs l) 81).hl q, q.h 29] [] ∧
        ∀ q' : Env, Agree 49 q q' → (∃ F, loadS.post [.pointer (slP (q.i 8) 0)] [(Res.blk 8 (oCs l) 81).hl q, q.h 29] [] (.int .i64 (q'.i 49)) (newHs q' 49 2) F ∧ (cpRoots 0 [Cp.one (Ck.int .i64)] ≠ [] → q'.h 51 = F) ∧ cpNorms 49 [Cp.one (Ck.int .i64)] q') →
          (¬ q'.i 49 = 0 → postOf openS [dp, .int .i64 frm, .int .i64 n] [H] [] q' [.hp 50 [29, 9, 6, 4, 3] [.var 0] [], .hp 49 [] [.var 8] [], .dead, .dead] (.tup [.one (.hptr (.lit (-1)) (.lit 0)), .one (.int .i64 (.var 49))])) ∧
          (q'.i 49 = 0 → postOf openS [dp, .int .i64 frm, .int .i64 n] [H] [] q' [.hp 50 [29, 9, 6, 4, 3] [.var 0] [], .hp 49 [] [.var 8] [], .dead, .dead] (.tup [.one (.hptr (.var 8) (.lit 0)), .one (.int .i64 (.lit 0))]))) := by
      intro q l h hq hh hmost hl h8 hd hgone hoH
      refine ⟨⟨_, _, _, _, dp, _, D1, rfl, rfl, ep8 q h8, rd q l h hq hh.1 hl h8, hd, hgone, hh.2.2.1, ?_⟩, fun q' g' ⟨F, ⟨p', a', HL, HDk, dp', L', Dx, HL', HD', hx, hH, hp, hL, hDx, hH', hDy, hAt, hvq⟩, _, _⟩ => ?_⟩
      · show 64 * (frm + 2) + h.getD 1 0 ≤ 64 * (D1.n : Int)
        omega
      · have hx : Value.pointer (slP (q.i 8) 0) = p' := by simpa using hx
        subst hx
        have hH : (Res.blk 8 (oCs l) 81).hl q = HL ∧ q.h 29 = HDk := by simpa using hH
        obtain ⟨hH1, hH2⟩ := hH
        subst hH1 hH2
        have e := hDx
        obtain ⟨e1, e2, e3⟩ := LogRd.uniq ⟨a', hp, hL⟩ ⟨_, ep8 q h8, rd q l h hq hh.1 hl h8⟩
        subst e1 e3
        have e := hDx.uniq hd
        subst e
        have hH' : q'.h 49 = HL' ∧ q'.h 50 = HD' := by
          have h1 : [q'.h 49, q'.h 50] = [HL', HD'] := hH'
          simpa using h1
        obtain ⟨h49, h50⟩ := hH'
        simp only [Value.int.injEq, true_and] at hvq
        refine ⟨fun h => absurd hvq h, fun _ _ => ⟨[[0]], [1], rfl, rfl, ⟨⟨fun j => [q'.i 8, 0, 0].getD j 0, fun _ => false, fun _ => .empty, fun _ => .tuple #[], fun _ => Hl.none⟩, rfl, ⟨?_, Int.le_refl _⟩, trivial, trivial⟩, _, frm, n, H, Dx, _, Value.pointer (slP (q'.i 8) 0), rfl, rfl, hD, rfl, ?_, ?_, fun _ => ?_, fun h => absurd (by rw [oE, hgone]; rfl) h⟩⟩
        · show -1 ≤ q'.i 8
          rw [g'.i 8 (by omega)]; omega
        · show DiskAt (hls [q'.h 50]) _ _
          rw [hls_one, h50]; exact hDy
        · rw [oE, hgone]; rfl
        · show LogAt (hls [q'.h 49]) _ _ _ _
          rw [hls_one, h49, g'.i 8 (by omega)]
          unfold openB openL
          rw [hoH]
          exact hAt
    have z18 : ∀ q : Env, ([CV.int .u64 (.lit 0), CV.int .u64 (.lit 0)] ++ List.replicate 16 (CV.int .u8 (.lit 0))).map (CV.ev q) = hdV zeros18 := fun q => rfl
    obtain ⟨ok0, le0⟩ := lread_head hDi.ok frm hm0 0
    obtain ⟨ok1, le1⟩ := lread_head hDi.ok frm hm0 1
    have hD6 : DiskAt (q3.h 6) dp D1 := by rw [g3.h 6 (by omega)]; exact hD3
    refine ⟨call q3 _ zeros18 6 0 G3 rfl (z18 q3) p8 hD6 (Or.inl rfl), fun q4 g4 ⟨F, hp4, _, _⟩ q5 g5 _ => ?_⟩
    obtain ⟨hD9, hv4⟩ := back q3 _ zeros18 6 0 _ _ _ G3 rfl (z18 q3) p8 hD6 hp4
    simp only [Value.tuple.injEq, Array.mk.injEq, List.cons.injEq, Value.int.injEq, Value.agg.injEq, true_and, and_true] at hv4
    obtain ⟨hh4, hc4⟩ := hv4
    have hc4 : q4.i 27 = (lreadR D1 frm (64 * (n - 2)) 0).2 := hc4
    rw [lread_code (inr 0 (Or.inl rfl))] at hc4
    have G5 : Agree 4 ρ q5 := (G3.trans (g4.mono (by omega))).trans (g5.mono (by omega))
    have hh5 : List.map (CV.ev q5) (ckCVs 9 hdk) = hdV (lreadR D1 frm (64 * (n - 2)) 0).1 := by
      rw [CV.agreeL (g5.mono (by decide)) _ (ckCVs_upto hdk 9)]
      exact hh4
    have p85 : 0 ≤ q5.i 8 := by rw [g5.i 8 (by omega), g4.i 8 (by omega)]; exact p8
    have hD95 : DiskAt (q5.h 9) dp D1 := by rw [g5.h 9 (by omega)]; exact hD9
    refine ⟨fun h27 => bad q5 9 _ _ _ 5 hD95 (by rw [iev_var, g5.i 27 (by omega), hc4, if_pos]; exact Classical.byContradiction fun hg => h27 (by rw [g5.i 27 (by omega), hc4, if_neg hg])) (by rw [oE, if_pos]; exact Classical.byContradiction fun hg => h27 (by rw [g5.i 27 (by omega), hc4, if_neg hg])) (by decide), fun h27 => ?_⟩
    have hgone : D1.gone = false := by
      cases hg : D1.gone with
      | false => rfl
      | true => rw [g5.i 27 (by omega), hc4, hg] at h27; cases h27
    have mid : ∀ (q6 : Env), Agree 29 q5 q6 → ∀ F, lreadS.post [.pointer (slP (q5.i 8) 0), .int .u64 1] [q5.h 9] [(Res.blk 8 (oCs (ckCVs 9 hdk)) 81).hl q5] (.tuple #[.agg (List.map (CV.ev q6) (ckCVs 29 hdk)).toArray, .int .i64 (q6.i 47)]) [q6.h 29] F →
        ∀ q7, Agree 48 q6 q7 → q7.i 47 = 0 ∧ Agree 4 ρ q7 ∧ 0 ≤ q7.i 8 ∧ DiskAt (q7.h 29) dp D1 ∧ List.map (CV.ev q7) (ckCVs 29 hdk) = hdV (lreadR D1 frm (64 * (n - 2)) 1).1 ∧ List.map (CV.ev q7) (ckCVs 9 hdk) = hdV (lreadR D1 frm (64 * (n - 2)) 0).1 := by
      intro q6 g6 F hp6 q7 g7
      obtain ⟨hD29, hv6⟩ := back q5 _ _ 9 1 _ _ _ G5 ok0.1 hh5 p85 hD95 hp6
      simp only [Value.tuple.injEq, Array.mk.injEq, List.cons.injEq, Value.int.injEq, Value.agg.injEq, true_and, and_true] at hv6
      obtain ⟨hh6, hc6⟩ := hv6
      rw [lread_code (inr 1 (Or.inr rfl)), hgone] at hc6
      refine ⟨by rw [g7.i 47 (by omega), hc6]; rfl, (G5.trans (g6.mono (by omega))).trans (g7.mono (by omega)), by rw [g7.i 8 (by omega), g6.i 8 (by omega)]; exact p85, by rw [g7.h 29 (by omega)]; exact hD29, ?_, ?_⟩
      · rw [CV.agreeL (g7.mono (by decide)) _ (ckCVs_upto hdk 29)]; exact hh6
      · rw [CV.agreeL ((g6.trans (g7.mono (by omega))).mono (by decide)) _ (ckCVs_upto hdk 9)]; exact hh5
    have both : ∀ (q7 : Env), Agree 4 ρ q7 → 0 ≤ q7.i 8 → DiskAt (q7.h 29) dp D1 → List.map (CV.ev q7) (ckCVs 29 hdk) = hdV (lreadR D1 frm (64 * (n - 2)) 1).1 → List.map (CV.ev q7) (ckCVs 9 hdk) = hdV (lreadR D1 frm (64 * (n - 2)) 0).1 →
        (q7.i 9 < q7.i 29 → openH D1 frm n = (lreadR D1 frm (64 * (n - 2)) 1).1) ∧ (¬ q7.i 9 < q7.i 29 → openH D1 frm n = (lreadR D1 frm (64 * (n - 2)) 0).1) := by
      intro q7 _ _ _ h1 h2
      rw [hd_first h1, hd_first h2]
      exact ⟨fun h => by unfold openH; rw [if_pos h], fun h => by unfold openH; rw [if_neg h]⟩
    constructor
    · intro _
      refine ⟨call q5 _ _ 9 1 G5 ok0.1 hh5 p85 hD95 (Or.inr rfl), fun q6 g6 ⟨F, hp6, _, _⟩ q7 g7 _ => ?_⟩
      obtain ⟨z1, z2, z3, z4, z5, z6⟩ := mid q6 g6 F hp6 q7 g7
      obtain ⟨b1, b2⟩ := both q7 z2 z3 z4 z5 z6
      exact ⟨fun h => absurd z1 h, fun _ => ⟨fun hlt => leaf q7 (ckCVs 29 hdk) _ z2 ok1 le1 z5 z3 z4 hgone (b1 hlt), fun hge => leaf q7 (ckCVs 9 hdk) _ z2 ok0 le0 z6 z3 z4 hgone (b2 hge)⟩⟩
    · intro _
      refine ⟨call q5 _ _ 9 1 G5 ok0.1 hh5 p85 hD95 (Or.inr rfl), fun q6 g6 ⟨F, hp6, _, _⟩ q7 g7 _ => ?_⟩
      obtain ⟨z1, z2, z3, z4, z5, z6⟩ := mid q6 g6 F hp6 q7 g7
      obtain ⟨b1, b2⟩ := both q7 z2 z3 z4 z5 z6
      exact ⟨fun h => absurd z1 h, fun _ => ⟨fun hlt => leaf q7 (ckCVs 29 hdk) _ z2 ok1 le1 z5 z3 z4 hgone (b1 hlt), fun hge => leaf q7 (ckCVs 9 hdk) _ z2 ok0 le0 z6 z3 z4 hgone (b2 hge)⟩⟩
end Go.Proofs.YtomdimlnggpgbaaDoor.D
namespace Go.Proofs.YtomdimlnggpgbaaDoor.D
open Go Go.Sx
def slOf (sl : Value) (n : Nat) : Prop := ∃ (x y : Int) (c : Nat), sl = .slice (slP x y) n c ∧ -1 ≤ x ∧ 0 ≤ y
theorem OwB.slOf {F : Hl} {e : TypeId} {v : Value} {bs : List Int} (h : OwB F e v bs) : slOf v bs.length := by
  obtain ⟨x, c, hx, hv, _⟩ := OwB.rep h
  exact ⟨x, 0, c, hv, hx, Int.le_refl _⟩
theorem RdB.slOf {F : Hl} {v : Value} {bs : List Int} (h : RdB F v bs) : slOf v bs.length := by
  obtain ⟨x, y, c, hv, hy, h⟩ := h
  exact ⟨x, y, c, hv, by rcases h with ⟨h, _⟩ | ⟨h, _⟩ <;> omega, hy⟩
theorem slOf.uniq {sl : Value} {n m : Nat} (h : slOf sl n) (h' : slOf sl m) : n = m := by
  obtain ⟨x, y, c, rfl, _⟩ := h
  obtain ⟨x', y', c', he, _⟩ := h'
  simp only [Value.slice.injEq] at he
  exact he.2.1
theorem valP_sl0 {x y : Int} (hx : -1 ≤ x) (n c : Nat) : valP (some (.slice (slP x y) n c)) 0 = x := by
  rcases Int.lt_or_le x 0 with h | h
  · obtain rfl : x = -1 := by omega
    rfl
  · rw [slP_pos h]; show ((x.toNat : Nat) : Int) = x; omega
theorem valP_sl1 {x y : Int} (hx : 0 ≤ x) (hy : 0 ≤ y) (n c : Nat) : valP (some (.slice (slP x y) n c)) 1 = y := by
  rw [slP_pos hx]; show ((y.toNat : Nat) : Int) = y; omega
theorem valP_sl2 {x y : Int} (hx : -1 ≤ x) (n c : Nat) : valP (some (.slice (slP x y) n c)) 2 = n := by
  rcases Int.lt_or_le x 0 with h | h
  · obtain rfl : x = -1 := by omega
    rfl
  · rw [slP_pos h]; rfl
def rdLog (a : Nat) (R1 R2 : Hl) : Env := envI [(a : Int)] false [Hl.none, R2, R1]
def rdMem : Mem := [.ro 1 [.hP 2 (.var 0) (.lit 21) 0 0] false, .ro 2 [.var 0] false]
theorem rdEntry (a : Nat) (R1 R2 : Hl) (Rs : List Hl) (h1 : R1 ∈ Rs) (h2 : R2 ∈ Rs) : Entry (rdLog a R1 R2) rdMem [] Rs := by
  refine ⟨fun r hr ho => ?_, fun r hr ho => ?_, ?_, fun r hr => ?_⟩
  · simp [rdMem] at hr
    rcases hr with rfl | rfl <;> cases ho
  · simp [rdMem] at hr
    rcases hr with rfl | rfl
    · exact ⟨R2, h2, Hl.le_refl _⟩
    · exact ⟨R1, h1, Hl.le_refl _⟩
  · simp [rdMem, Res.own]
  · simp [rdMem] at hr
    rcases hr with rfl | rfl <;> trivial
def roomS : Sx.Spec where
  fn := 34
  own := []
  rd := [0]
  res := [.one (.int .i64)]
  pre := fun xs Hs Rs => ∃ p R dp sl L n, xs = [p] ∧ Rs = [R] ∧ LogRd R p dp sl L ∧ slOf sl n ∧ n ≤ 1048576
  post := fun xs Hs Rs v Hs' F => ∃ p R dp sl L n, xs = [p] ∧ Rs = [R] ∧ LogRd R p dp sl L ∧ slOf sl n ∧ v = .int .i64 (L.most - n)
def roomNd : Nd := .and (.e (.le (.lit 0) (.var 0))) (.and (.e (.his 2 (.var 0) (.lit 2) 0 (.int .i64))) (.and (.e (.his 2 (.var 0) (.lit 21) 0 .slice)) (.and (.e (.le (.lit 0) (.hP 2 (.var 0) (.lit 21) 0 2))) (.post [.ro 1 [.hP 2 (.var 0) (.lit 21) 0 0] false, .ro 2 [.var 0] false] (.sv (.one (.int .i64 (.wrap .i64 (.sub (.hI 2 (.var 0) (.lit 2) 0) (.hP 2 (.var 0) (.lit 21) 0 2))))))))))
def roomW : Walk Tryd.prog [] roomS.fn where
  Λ := noLoops
  args := [TP (.var 0) (.lit 0)]
  mem := rdMem
  nv := 3
  nd := roomNd
  ok := by kernel_rfl
def lnoteS : Sx.Spec where
  fn := 37
  own := []
  rd := [0]
  res := [.agg (u8s 16)]
  pre := fun xs Hs Rs => ∃ p R dp sl L, xs = [p] ∧ Rs = [R] ∧ LogRd R p dp sl L
  post := fun xs Hs Rs v Hs' F => ∃ p R dp sl L, xs = [p] ∧ Rs = [R] ∧ LogRd R p dp sl L ∧ v = .agg (bys L.note).toArray
def lnoteNd : Nd := .ext (.alloc 3) (.and (.e (.le (.lit 0) (.var 0))) (.and (.e (.hby 2 (.var 0) (.lit 5) (.lit 16))) (.post [.ro 1 [.hP 2 (.var 0) (.lit 21) 0 0] false, .ro 2 [.var 0] false, .dead] (.sv (.agg (romCells 2 (.var 0) (.lit 5) 0 (List.replicate 16 (Kd.int .u8))))))))
def lnoteW : Walk Tryd.prog [] lnoteS.fn where
  Λ := noLoops
  args := [TP (.var 0) (.lit 0)]
  mem := rdMem
  nv := 3
  nd := lnoteNd
  ok := by kernel_rfl
theorem LogIn.at21 {R : Hl} {a : Nat} {dp sl : Value} {L : LM} (h : LogIn R a dp sl L) : R.cell a 21 = some sl := by
  rw [h.cell]
  unfold lCells
  rw [List.getElem?_append_right (by simp), List.getElem?_append_right (by rw [bys_length, h.1.note]; simp)]
  rw [bys_length, h.1.note]; rfl
theorem LogIn.note_at {R : Hl} {a : Nat} {dp sl : Value} {L : LM} (h : LogIn R a dp sl L) : ∀ j z, L.note[j]? = some z → R.cell a (5 + j) = some (.int .u8 z) := by
  intro j z hz
  rw [h.cell]
  unfold lCells
  have hj := (List.getElem?_eq_some_iff.1 hz).1
  rw [List.getElem?_append_right (by simp), List.getElem?_append_left (by rw [bys_length]; simp; omega), bys_get]
  rw [show 5 + j - _ = j from by simp, hz]; rfl
theorem roomS_ok : roomS.OK Tryd.prog := by
  refine Spec.of_fn (Γ := []) (fun _ h => by cases h) ?_
  rintro xs Hs Rs hl1 hl2 ⟨p, R, dp, sl, L, n, rfl, rfl, ⟨a, rfl, hL⟩, hs, hn⟩
  have e0 : Hs = [] := List.length_eq_zero_iff.1 hl1
  subst e0
  refine ⟨roomW, rdLog a R R, fun _ _ => True, fun _ _ => 0, ?_, rdEntry a R R _ (by simp) (by simp), (fun _ h => nomatch h), ?_⟩
  · show [Value.pointer (slP (a : Int) 0)] = _; rw [dArg]
  · show Nd.holds _ _ _ roomNd
    unfold roomNd
    simp only [Nd.holds, X.pre, X.rel, X.n, Src.ok, Src.len, Src.vals, true_and, and_true, if_true, Nat.mul_one, Nat.add_zero, Nat.reduceAdd, List.length_cons, List.length_nil, bT_tt, bT_ff, bT_bvar, bT_not, bT_and, bT_or, bT_ite, bT_lt, bT_le, bT_eq, bT_beq, bT_seq, bT_hB, bT_his, bT_hby, bT_hism, bT_hks, iev_lit, iev_var, iev_add, iev_sub, iev_mul, iev_wrap, iev_ite, iev_hI, iev_hP, iev_hmlen, sev_ite, sev_slit, sev_sof, sev_svar, TV.ev, SV.ev, CV.ev, List.map_cons, List.map_nil, Res.hl]
    have v0 : (rdLog a R R).i 0 = a := rfl
    have w2 : (rdLog a R R).h 2 = R := rfl
    have c2 : R.cell a 2 = some (.int .i64 L.most) := by rw [hL.cell]; rfl
    have c21 := hL.at21
    obtain ⟨x, y, c, hsl, hx, hy⟩ := id hs
    obtain ⟨m0, m1⟩ := hL.1.most
    rw [v0, w2, Int.toNat_natCast, show Int.toNat 2 = 2 from rfl, show Int.toNat 21 = 21 from rfl, c2, c21, hsl]
    refine ⟨by omega, rfl, rfl, by rw [valP_sl2 hx]; omega, fun _ => ⟨[], [], rfl, rfl, ⟨⟨fun _ => L.most - n, fun _ => false, fun _ => .empty, fun _ => .tuple #[], fun _ => Hl.none⟩, ?_, trivial, trivial⟩, _, R, dp, sl, L, n, rfl, rfl, ⟨a, rfl, hL⟩, hs, ?_⟩⟩
    all_goals
      show Value.int .i64 (IntKind.i64.wrap (valI (R.cell ((a : Int)).toNat 2) - valP (R.cell ((a : Int)).toNat 21) 2)) = Value.int .i64 (L.most - n)
      rw [Int.toNat_natCast, c2, c21, hsl]
      rw [valP_sl2 hx]
      show Value.int .i64 (IntKind.i64.wrap (L.most - (n : Int))) = _
      rw [wrap_i64 (by omega) (by omega)]
theorem lnoteS_ok : lnoteS.OK Tryd.prog := by
  refine Spec.of_fn (Γ := []) (fun _ h => by cases h) ?_
  rintro xs Hs Rs hl1 hl2 ⟨p, R, dp, sl, L, rfl, rfl, ⟨a, rfl, hL⟩⟩
  have e0 : Hs = [] := List.length_eq_zero_iff.1 hl1
  subst e0
  refine ⟨lnoteW, rdLog a R R, fun _ _ => True, fun _ _ => 0, ?_, rdEntry a R R _ (by simp) (by simp), (fun _ h => nomatch h), ?_⟩
  · show [Value.pointer (slP (a : Int) 0)] = _; rw [dArg]
  · show Nd.holds _ _ _ lnoteNd
    unfold lnoteNd
    simp only [Nd.holds, X.pre, X.rel, X.n, Src.ok, Src.len, Src.vals, true_and, and_true, if_true, Nat.mul_one, Nat.add_zero, Nat.reduceAdd, List.length_cons, List.length_nil, bT_tt, bT_ff, bT_bvar, bT_not, bT_and, bT_or, bT_ite, bT_lt, bT_le, bT_eq, bT_beq, bT_seq, bT_hB, bT_his, bT_hby, bT_hism, bT_hks, iev_lit, iev_var, iev_add, iev_sub, iev_mul, iev_wrap, iev_ite, iev_hI, iev_hP, iev_hmlen, sev_ite, sev_slit, sev_sof, sev_svar, TV.ev, SV.ev, CV.ev, List.map_cons, List.map_nil, Res.hl]
    intro q g _
    have v0 : q.i 0 = a := g.i 0 (by omega)
    have w2 : q.h 2 = R := g.h 2 (by omega)
    have hc := hL.note_at
    rw [v0, w2, Int.toNat_natCast, show Int.toNat 5 = 5 from rfl, show Int.toNat 16 = 16 from rfl]
    have er : (romCells 2 (E.var 0) (E.lit 5) 0 (List.replicate 16 (Kd.int IntKind.u8))).map (CV.ev q) = bys L.note := by
      refine romCells_ev 16 0 _ hL.1.note fun i z hz => ?_
      rw [iev_var, iev_lit, v0, w2, Int.toNat_natCast, Nat.zero_add]
      exact hc _ _ hz
    refine ⟨by omega, cells_bytes hc (by rw [hL.1.note]; omega), fun _ => ⟨[], [], rfl, rfl, ?_, _, R, dp, sl, L, rfl, rfl, ⟨a, rfl, hL⟩, ?_⟩⟩
    · obtain ⟨c, _, _, ec⟩ := row_rep (u8s 16) 0 (bys L.note) ⟨fun _ => 0, fun _ => false, fun _ => .empty, fun _ => .tuple #[], fun _ => Hl.none⟩ (rowOK_bys 16 _ hL.1.note)
      refine ⟨c, ?_, ckNorms_pure _ _ _ (by decide), trivial⟩
      show Value.agg (List.map (CV.ev q) _).toArray = Value.agg ((ckCVs 0 (u8s 16)).map (CV.ev c)).toArray
      rw [er, ec]
    · show Value.agg (List.map (CV.ev q) _).toArray = _
      rw [er]
def bytesS : Sx.Spec where
  fn := 32
  own := []
  rd := [0, 1021]
  res := [.one .sl]
  pre := fun xs Hs Rs => ∃ p R1 R2 dp sl L bs, xs = [p] ∧ Rs = [R1, R2] ∧ LogRd R1 p dp sl L ∧ RdB R2 sl bs ∧ bs.length ≤ 1048576
  post := fun xs Hs Rs v Hs' F => ∃ p R1 R2 dp sl L bs, xs = [p] ∧ Rs = [R1, R2] ∧ LogRd R1 p dp sl L ∧ RdB R2 sl bs ∧ OwB F 5 v bs
def bytesNd : Nd := .and (.e (.le (.lit 0) (.var 0))) (.and (.e (.his 2 (.var 0) (.lit 21) 0 .slice)) (.and (.imp (.eq (.hP 2 (.var 0) (.lit 21) 0 0) (.lit (-1))) (.post [.ro 1 [.hP 2 (.var 0) (.lit 21) 0 0] false, .ro 2 [.var 0] false] (.sv (.one (.sl (.lit (-1)) (.lit 0) (.lit 0) (.lit 0)))))) (.imp (.not (.eq (.hP 2 (.var 0) (.lit 21) 0 0) (.lit (-1)))) (.ext (.alloc 3) (.and (.pre (.app 4 5 1 1 (.sl (.var 3) (.lit 0) (.lit 0) (.lit 0)) (.lit 0) (.blk 3 [] 5) (.seg 1 (.hP 2 (.var 0) (.lit 21) 0 0) (.hP 2 (.var 0) (.lit 21) 0 1) (.hP 2 (.var 0) (.lit 21) 0 2)))) (.ext (.app 4 5 1 1 (.sl (.var 3) (.lit 0) (.lit 0) (.lit 0)) (.lit 0) (.blk 3 [] 5) (.seg 1 (.hP 2 (.var 0) (.lit 21) 0 0) (.hP 2 (.var 0) (.lit 21) 0 1) (.hP 2 (.var 0) (.lit 21) 0 2))) (.post [.ro 1 [.hP 2 (.var 0) (.lit 21) 0 0] false, .ro 2 [.var 0] false, .hp 4 [] [.var 4, .var 3] []] (.sv (.one (.sl (.var 4) (.lit 0) (.hP 2 (.var 0) (.lit 21) 0 2) (.var 5)))))))))))
def bytesW : Walk Tryd.prog [] bytesS.fn where
  Λ := noLoops
  args := [TP (.var 0) (.lit 0)]
  mem := rdMem
  nv := 3
  nd := bytesNd
  ok := by kernel_rfl
theorem bytesS_ok : bytesS.OK Tryd.prog := by
  refine Spec.of_fn (Γ := []) (fun _ h => by cases h) ?_
  rintro xs Hs Rs hl1 hl2 ⟨p, R1, R2, dp, sl, L, bs, rfl, rfl, ⟨a, rfl, hL⟩, hB, hn⟩
  have e0 : Hs = [] := List.length_eq_zero_iff.1 hl1
  subst e0
  refine ⟨bytesW, rdLog a R1 R2, fun _ _ => True, fun _ _ => 0, ?_, rdEntry a R1 R2 _ (by simp) (by simp), (fun _ h => nomatch h), ?_⟩
  · show [Value.pointer (slP (a : Int) 0)] = _; rw [dArg]
  · show Nd.holds _ _ _ bytesNd
    unfold bytesNd
    simp only [Nd.holds, X.pre, X.rel, X.n, Src.ok, Src.len, Src.vals, true_and, and_true, if_true, Nat.mul_one, Nat.add_zero, Nat.reduceAdd, List.length_cons, List.length_nil, bT_tt, bT_ff, bT_bvar, bT_not, bT_and, bT_or, bT_ite, bT_lt, bT_le, bT_eq, bT_beq, bT_seq, bT_hB, bT_his, bT_hby, bT_hism, bT_hks, iev_lit, iev_var, iev_add, iev_sub, iev_mul, iev_wrap, iev_ite, iev_hI, iev_hP, iev_hmlen, sev_ite, sev_slit, sev_sof, sev_svar, TV.ev, SV.ev, CV.ev, List.map_cons, List.map_nil, Res.hl]
    have c21 := hL.at21
    obtain ⟨x, y, c, hsl, hy, hc⟩ := id hB
    have hx : -1 ≤ x := by rcases hc with ⟨h, _⟩ | ⟨h, _⟩ <;> omega
    have w2 : (rdLog a R1 R2).h 2 = R1 := rfl
    have v0 : (rdLog a R1 R2).i 0 = a := rfl
    have t0 : Int.toNat 0 = 0 := rfl
    rw [v0, w2, Int.toNat_natCast, show Int.toNat 21 = 21 from rfl, c21, hsl, valP_sl0 hx]
    refine ⟨by omega, rfl, fun h => fun _ => ?_, fun h q g p3 => ?_⟩
    · have hbs : bs = [] := by
        rcases hc with ⟨_, h'⟩ | ⟨h', _⟩
        · exact h'
        · omega
      subst hbs
      exact ⟨[], [], rfl, rfl, ⟨⟨fun k => [-1, 0, 0, 0].getD k 0, fun _ => false, fun _ => .empty, fun _ => .tuple #[], fun _ => Hl.none⟩, rfl, ⟨by show (-1 : Int) ≤ -1; omega, Int.le_refl _, Int.le_refl _, Int.le_refl _⟩, trivial⟩, _, R1, R2, dp, sl, L, [], rfl, rfl, ⟨a, rfl, hL⟩, hB, ⟨rfl, Or.inl ⟨rfl, rfl⟩⟩⟩
    · have hx0 : 0 ≤ x := by omega
      have hcell : ∀ (j : Nat) (z : Int), bs[j]? = some z → R2.cell x.toNat (y.toNat + j) = some (.int .u8 z) := by
        rcases hc with ⟨h', _⟩ | ⟨_, h'⟩
        · omega
        · exact h'
      have hsl' := hsl
      rw [g.i 0 (by omega), v0, g.h 2 (by omega), w2, g.h 1 (by omega), show (rdLog a R1 R2).h 1 = R2 from rfl, Int.toNat_natCast, c21, hsl, valP_sl0 hx, valP_sl1 hx0 hy, valP_sl2 hx, t0, Int.toNat_natCast]
      have hnil : OwnsH (Hl.one (q.i 3).toNat (.cells #[] 5 (0, 0))) 5 1 (.slice (slP (q.i 3) 0) 0 0) 0 [] := ⟨rfl, Or.inr ⟨(q.i 3).toNat, 0, #[], by rw [slP_pos p3]; rfl, Hl.one_self _ _, by omega, by decide, rfl, rfl⟩⟩
      refine ⟨⟨⟨[], hnil⟩, by omega, Or.inl ⟨hx0, hy, by omega, fun j hj => ?_⟩, by unfold maxLen; omega, by omega⟩, fun q2 g2 ⟨a1, a2, a3, _⟩ => ?_⟩
      · exact ⟨_, hcell j _ (List.getElem?_eq_getElem hj), rfl⟩
      · have hseg : segVals R2 x.toNat y.toNat bs.length = bys bs := by
          unfold segVals
          apply List.ext_getElem?
          intro j
          rw [List.getElem?_map, bys_get]
          rcases Nat.lt_or_ge j bs.length with hj | hj
          · rw [List.getElem?_range hj, Option.map_some, hcell j _ (List.getElem?_eq_getElem hj), List.getElem?_eq_getElem hj]
            rfl
          · rw [List.getElem?_eq_none (by simpa using hj), List.getElem?_eq_none (by omega)]; rfl
        have hx' := a3 _ hnil
        rw [hseg, List.nil_append, Nat.zero_add] at hx'
        have G2 : Agree 3 (rdLog a R1 R2) q2 := g.trans (g2.mono (by omega))
        have ev : (TV.sv (SV.one (CV.sl (.var 4) (.lit 0) (.hP 2 (.var 0) (.lit 21) 0 2) (.var 5)))).ev q2 = .slice (slP (q2.i 4) 0) bs.length (q2.i 5).toNat := by
          show Value.slice (slP (q2.i 4) 0) (iev q2 (.hP 2 (.var 0) (.lit 21) 0 2)).toNat (q2.i 5).toNat = _
          rw [iev_hP, iev_var, iev_lit, G2.i 0 (by omega), v0, G2.h 2 (by omega), w2, Int.toNat_natCast, show Int.toNat 21 + 0 = 21 from rfl, c21, hsl, valP_sl2 hx, Int.toNat_natCast]
        refine fun _ => ⟨[], [2], rfl, rfl, ⟨⟨fun k => [q2.i 4, 0, bs.length, q2.i 5].getD k 0, fun _ => false, fun _ => .empty, fun _ => .tuple #[], fun _ => Hl.none⟩, ?_, ⟨a1, Int.le_refl _, by show (0 : Int) ≤ (bs.length : Int); omega, a2⟩, trivial⟩, _, R1, R2, dp, sl, L, bs, rfl, rfl, ⟨a, rfl, hL⟩, hB, ?_⟩
        · rw [ev]; show _ = Value.slice (slP (q2.i 4) 0) ((bs.length : Int)).toNat (q2.i 5).toNat
          rw [Int.toNat_natCast]
        · rw [ev]
          show OwB (hls [q2.h 4]) _ _ _
          rw [hls_one]
          exact hx'
end Go.Proofs.YtomdimlnggpgbaaDoor.D
namespace Go.Proofs.YtomdimlnggpgbaaDoor.D
open Go Go.Sx
theorem u8_ev {q : Env} : ∀ (m n : Nat) (l : List Int), l.length = m → (∀ k, k < m → q.i (n + k) = l.getD k 0) → (ckCVs n (List.replicate m (Ck.int .u8))).map (CV.ev q) = bys l
  | 0, n, [], _, _ => rfl
  | m + 1, n, z :: l, hl, h => by
    rw [List.replicate_succ]
    show CV.ev q (.int .u8 (.var n)) :: (ckCVs (n + 1) (List.replicate m (Ck.int .u8))).map (CV.ev q) = Value.int .u8 z :: bys l
    rw [u8_ev m (n + 1) l (by simpa using hl) fun k hk => by rw [show n + 1 + k = n + (k + 1) by omega, h (k + 1) (by omega)]; rfl]
    congr 1
    show Value.int .u8 (q.i n) = _
    have := h 0 (by omega)
    rw [Nat.add_zero] at this
    rw [this]; rfl
  | 0, _, _ :: _, h, _ => by simp at h
  | _ + 1, _, [], h, _ => by simp at h
def newH (L : LM) (all nt : List Int) : List Int := (L.serial + 1) :: (all.length : Int) :: nt
def becomeR (D : DM) (L : LM) (all nt : List Int) (n : Nat) : Int × DM :=
  if (fillR D L.frm all n).1 ≠ 0 then (5, (fillR D L.frm all n).2)
  else if (turnR (fillR D L.frm all n).2 L.frm (newH L all nt)).1 ≠ 0 then (5, (turnR (fillR D L.frm all n).2 L.frm (newH L all nt)).2)
  else (0, (turnR (fillR D L.frm all n).2 L.frm (newH L all nt)).2)
def grownL (L : LM) (all nt : List Int) : LM := ⟨L.frm, L.most, L.serial + 1, all.length, nt, L.over⟩
def overL (L : LM) : LM := { L with over := true }
def becomeS : Sx.Spec where
  fn := 41
  own := [.arg 0, .arg 1, .link 0 0]
  rd := []
  res := [.one (.int .i64)]
  pre := fun xs Hs Rs => ∃ p a u all nt H HA HD dp sl L n D, xs = [p, u, .agg (bys nt).toArray, .bool true] ∧ Hs = [H, HA, HD] ∧ p = .pointer (some ⟨a, 0, none⟩) ∧ LogIn H a dp sl L ∧ slOf sl n ∧ n ≤ 1048576 ∧ OwB HA 5 u all ∧ all.length ≤ 1048576 ∧ nt.length = 16 ∧ DiskAt HD dp D ∧ 0 ≤ L.serial ∧ L.serial < 4611686018427387904
  post := fun xs Hs Rs v Hs' F => ∃ p a u all nt H HA HD dp sl L n D H' HA' HD', xs = [p, u, .agg (bys nt).toArray, .bool true] ∧ Hs = [H, HA, HD] ∧ p = .pointer (some ⟨a, 0, none⟩) ∧ LogIn H a dp sl L ∧ slOf sl n ∧ OwB HA 5 u all ∧ DiskAt HD dp D ∧ Hs' = [H', HA', HD'] ∧ DiskAt HD' dp (becomeR D L all nt n).2 ∧ v = .int .i64 (becomeR D L all nt n).1 ∧
    ((becomeR D L all nt n).1 = 0 → LogAt H' p dp (grownL L all nt) all) ∧ ((becomeR D L all nt n).1 ≠ 0 → H' = Hl.one a (lObj dp sl (overL L)))
def becomeNd : Nd := .ext (.alloc 61) (.and (.e (.le (.lit 0) (.var 3))) (.ext (.alloc 62) (.and (.imp (.bvar 60) (.and (.e (.le (.lit 0) (.var 45))) (.and (.pre (.call 0 63 [.sv (.one (.hptr (.var 0) (.lit 0))), .sv (.one (.sl (.var 1) (.var 2) (.var 3) (.var 4))), .sv (.one (.int .i64 (.var 45)))] [.hp 49 [] [.var 21] []] [.blk 0 (ckCVs 21 ([Ck.ptr, Ck.int .i64, Ck.int .i64, Ck.int .u64, Ck.int .u64] ++ List.replicate 16 (Ck.int .u8) ++ [Ck.sl, Ck.bool])) 81, .hp 48 [] [.var 1] []])) (.ext (.call 0 63 [.sv (.one (.hptr (.var 0) (.lit 0))), .sv (.one (.sl (.var 1) (.var 2) (.var 3) (.var 4))), .sv (.one (.int .i64 (.var 45)))] [.hp 49 [] [.var 21] []] [.blk 0 (ckCVs 21 ([Ck.ptr, Ck.int .i64, Ck.int .i64, Ck.int .u64, Ck.int .u64] ++ List.replicate 16 (Ck.int .u8) ++ [Ck.sl, Ck.bool])) 81, .hp 48 [] [.var 1] []]) (.and (.imp (.eq (.var 63) (.lit 0)) (.and (.pre (.call 1 65 [.sv (.one (.hptr (.var 0) (.lit 0))), .sv (.agg ([.int .u64 (.wrap .u64 (.add (.var 25) (.lit 1))), .int .u64 (.wrap .u64 (.var 3))] ++ ckCVs 5 (List.replicate 16 (Ck.int .u8))))] [.hp 63 [49] [.var 21] []] [.blk 0 (ckCVs 21 ([Ck.ptr, Ck.int .i64, Ck.int .i64, Ck.int .u64, Ck.int .u64] ++ List.replicate 16 (Ck.int .u8) ++ [Ck.sl, Ck.bool])) 81])) (.ext (.call 1 65 [.sv (.one (.hptr (.var 0) (.lit 0))), .sv (.agg ([.int .u64 (.wrap .u64 (.add (.var 25) (.lit 1))), .int .u64 (.wrap .u64 (.var 3))] ++ ckCVs 5 (List.replicate 16 (Ck.int .u8))))] [.hp 63 [49] [.var 21] []] [.blk 0 (ckCVs 21 ([Ck.ptr, Ck.int .i64, Ck.int .i64, Ck.int .u64, Ck.int .u64] ++ List.replicate 16 (Ck.int .u8) ++ [Ck.sl, Ck.bool])) 81]) (.and (.imp (.not (.eq (.var 65) (.lit 0))) (.post [.blk 0 (ckCVs 21 ([Ck.ptr, Ck.int .i64, Ck.int .i64, Ck.int .u64, Ck.int .u64] ++ List.replicate 16 (Ck.int .u8) ++ [Ck.sl]) ++ [.bool .tt]) 81, .hp 48 [] [.var 1] [], .hp 65 [63, 49] [.var 21] [], .dead, .dead] (.sv (.one (.int .i64 (.lit 5)))))) (.imp (.eq (.var 65) (.lit 0)) (.post [.blk 0 ([.hptr (.var 21) (.var 22), .int .i64 (.var 23), .int .i64 (.var 24), .int .u64 (.wrap .u64 (.add (.var 25) (.lit 1))), .int .u64 (.wrap .u64 (.var 3))] ++ ckCVs 5 (List.replicate 16 (Ck.int .u8)) ++ [.sl (.var 1) (.var 2) (.var 3) (.var 4), .bool (.bvar 47)]) 81, .hp 48 [] [.var 1] [], .hp 65 [63, 49] [.var 21] [], .dead, .dead] (.sv (.one (.int .i64 (.lit 0)))))))))) (.imp (.not (.eq (.var 63) (.lit 0))) (.post [.blk 0 (ckCVs 21 ([Ck.ptr, Ck.int .i64, Ck.int .i64, Ck.int .u64, Ck.int .u64] ++ List.replicate 16 (Ck.int .u8) ++ [Ck.sl]) ++ [.bool .tt]) 81, .hp 48 [] [.var 1] [], .hp 63 [49] [.var 21] [], .dead, .dead] (.sv (.one (.int .i64 (.lit 5))))))))))) (.imp (.not (.bvar 60)) (.and (.pre (.call 1 63 [.sv (.one (.hptr (.var 0) (.lit 0))), .sv (.agg ([.int .u64 (.wrap .u64 (.add (.var 25) (.lit 1))), .int .u64 (.wrap .u64 (.var 3))] ++ ckCVs 5 (List.replicate 16 (Ck.int .u8))))] [.hp 49 [] [.var 21] []] [.blk 0 (ckCVs 21 ([Ck.ptr, Ck.int .i64, Ck.int .i64, Ck.int .u64, Ck.int .u64] ++ List.replicate 16 (Ck.int .u8) ++ [Ck.sl, Ck.bool])) 81])) (.ext (.call 1 63 [.sv (.one (.hptr (.var 0) (.lit 0))), .sv (.agg ([.int .u64 (.wrap .u64 (.add (.var 25) (.lit 1))), .int .u64 (.wrap .u64 (.var 3))] ++ ckCVs 5 (List.replicate 16 (Ck.int .u8))))] [.hp 49 [] [.var 21] []] [.blk 0 (ckCVs 21 ([Ck.ptr, Ck.int .i64, Ck.int .i64, Ck.int .u64, Ck.int .u64] ++ List.replicate 16 (Ck.int .u8) ++ [Ck.sl, Ck.bool])) 81]) (.and (.imp (.not (.eq (.var 63) (.lit 0))) (.post [.blk 0 (ckCVs 21 ([Ck.ptr, Ck.int .i64, Ck.int .i64, Ck.int .u64, Ck.int .u64] ++ List.replicate 16 (Ck.int .u8) ++ [Ck.sl]) ++ [.bool .tt]) 81, .hp 48 [] [.var 1] [], .hp 63 [49] [.var 21] [], .dead, .dead] (.sv (.one (.int .i64 (.lit 5)))))) (.imp (.eq (.var 63) (.lit 0)) (.post [.blk 0 ([.hptr (.var 21) (.var 22), .int .i64 (.var 23), .int .i64 (.var 24), .int .u64 (.wrap .u64 (.add (.var 25) (.lit 1))), .int .u64 (.wrap .u64 (.var 3))] ++ ckCVs 5 (List.replicate 16 (Ck.int .u8)) ++ [.sl (.var 1) (.var 2) (.var 3) (.var 4), .bool (.bvar 47)]) 81, .hp 48 [] [.var 1] [], .hp 63 [49] [.var 21] [], .dead, .dead] (.sv (.one (.int .i64 (.lit 0)))))))))))))
def becomeΓ : List Sx.Spec := [fillS, turnS]
theorem becomeΓ_ok : ∀ t ∈ becomeΓ, t.OK Tryd.prog := fun t ht => by
  simp only [becomeΓ, List.mem_cons, List.mem_nil_iff, or_false] at ht
  rcases ht with rfl | rfl
  · exact fillS_ok
  · exact turnS_ok
def becomeW : Walk Tryd.prog becomeΓ becomeS.fn where
  Λ := noLoops
  args := [TP (.var 0) (.lit 0), .sv (.one (.sl (.var 1) (.var 2) (.var 3) (.var 4))), .sv (.agg (ckCVs 5 (u8s 16))), .sv (.one (.bool (.bvar 60)))]
  mem := [.blk 0 (ckCVs 21 logK ++ [.sl (.var 43) (.var 44) (.var 45) (.var 46), .bool (.bvar 47)]) 81, .hp 48 [] [.var 1] [], .hp 49 [] [.var 21] []]
  nv := 61
  nd := becomeNd
  ok := by kernel_rfl
theorem bg0 : becomeΓ[0]? = some fillS := rfl
theorem bg1 : becomeΓ[1]? = some turnS := rfl
theorem br0 : fillS.res = [.one (.int .i64)] := rfl
theorem br1 : turnS.res = [.one (.int .i64)] := rfl
def becEnv (a : Nat) (x : Int) (n c : Nat) (nt : List Int) (da : Nat) (L : LM) (sx sy : Int) (sn sc : Nat) (HA HD : Hl) : Env :=
  ⟨fun k => if k < 5 then [(a : Int), x, 0, n, c].getD k 0 else if k < 21 then nt.getD (k - 5) 0 else if k < 43 then (lInts da L).getD (k - 21) 0 else [sx, sy, (sn : Int), (sc : Int)].getD (k - 43) 0, fun k => if k = 60 then true else L.over, fun _ => .empty, fun _ => .tuple #[], fun k => if k = 48 then HA else HD⟩
theorem becomeS_ok : becomeS.OK Tryd.prog := by
  refine spec_of_fn2 (Γ := becomeΓ) becomeΓ_ok ?_
  rintro xs Hs Rs hl1 hl2 hdis ⟨p, a, u, all, nt, H, HA, HD, dp, sl, L, n, D, rfl, rfl, rfl, hL, hsl, hn, hO, hall, hnt, hD, hs0, hs1⟩
  have e1 : Rs = [] := List.length_eq_zero_iff.1 hl2
  subst e1
  obtain ⟨da, s, m, es, clock, hdp, hDi⟩ := id hD
  obtain ⟨x, c, hx, hu, hc, hcell⟩ := OwB.rep hO
  obtain ⟨sx, sy, sc, hsl', hsx, hsy⟩ := id hsl
  have eB : ∀ (q : Env), Agree 61 (becEnv a x all.length c nt da L sx sy n sc HA HD) q → (Res.blk 0 (ckCVs 21 logK ++ [.sl (.var 43) (.var 44) (.var 45) (.var 46), .bool (.bvar 47)]) 81).hl q = Hl.one a (lObj dp sl L) := by
    intro q g
    have h1 : ∀ k, k < 22 → q.i (21 + k) = (lInts da L).getD k 0 := fun k hk => by
      rw [g.i _ (by omega)]
      show (if 21 + k < 5 then _ else if 21 + k < 21 then _ else if 21 + k < 43 then (lInts da L).getD (21 + k - 21) 0 else _) = _
      rw [if_neg (by omega), if_neg (by omega), if_pos (by omega), show 21 + k - 21 = k by omega]
    show Hl.one (q.i 0).toNat (.cells ((ckCVs 21 logK ++ [CV.sl (.var 43) (.var 44) (.var 45) (.var 46), .bool (.bvar 47)]).map (CV.ev q)).toArray _ (0, 0)) = _
    rw [List.map_append, logK_ev hL.1 h1, g.i 0 (by omega)]
    have e1 : CV.ev q (.sl (.var 43) (.var 44) (.var 45) (.var 46)) = sl := by
      simp only [CV.ev, iev_var, g.i 43 (by omega), g.i 44 (by omega), g.i 45 (by omega), g.i 46 (by omega)]
      rw [hsl']
      show Value.slice (slP sx sy) ((n : Int)).toNat ((sc : Int)).toNat = _
      rw [Int.toNat_natCast, Int.toNat_natCast]
    have e2 : CV.ev q (.bool (.bvar 47)) = .bool L.over := by
      show Value.bool (q.b 47) = _
      rw [g.b 47 (by omega)]; rfl
    rw [List.map_cons, List.map_cons, List.map_nil, e1, e2, List.append_assoc, ← hdp]
    rfl
  refine ⟨becomeW, becEnv a x all.length c nt da L sx sy n sc HA HD, fun _ _ => True, fun _ _ => 0, ?_, ⟨?_, ?_, ?_, ?_⟩, (fun _ h => nomatch h), ?_⟩
  · show [Value.pointer (slP (a : Int) 0), Value.slice (slP x 0) ((all.length : Int)).toNat ((c : Int)).toNat, Value.agg ((ckCVs 5 (u8s 16)).map (CV.ev _)).toArray, Value.bool true] = _
    unfold u8s
    rw [dArg, Int.toNat_natCast, Int.toNat_natCast, ← hu, u8_ev 16 5 nt hnt fun k hk => ?_]
    show (if 5 + k < 5 then _ else if 5 + k < 21 then nt.getD (5 + k - 5) 0 else _) = _
    rw [if_neg (by omega), if_pos (by omega), show 5 + k - 5 = k by omega]
  · intro r hr ho
    simp only [becomeW, List.mem_cons, List.mem_nil_iff, or_false] at hr
    rcases hr with rfl | rfl | rfl
    · refine ⟨H, by simp, ?_⟩
      rw [eB _ (Agree.refl _ _)]
      intro b o hb
      obtain ⟨rfl, rfl⟩ := Hl.one_eq hb
      exact hL.2
    · exact ⟨HA, by simp, Hl.le_refl _⟩
    · exact ⟨HD, by simp, Hl.le_refl _⟩
  · intro r hr ho
    simp only [becomeW, List.mem_cons, List.mem_nil_iff, or_false] at hr
    rcases hr with rfl | rfl | rfl <;> cases ho
  · have d1 : H.dis HA := hdis 0 1 _ _ (by decide) rfl rfl
    have d2 : H.dis HD := hdis 0 2 _ _ (by decide) rfl rfl
    have d3 : HA.dis HD := hdis 1 2 _ _ (by decide) rfl rfl
    have hm : H.mem a := by unfold Hl.mem; rw [hL.2]; rfl
    refine List.Pairwise.cons (fun r hr _ _ => ?_) (List.Pairwise.cons (fun r hr _ _ => ?_) (List.Pairwise.cons (fun r hr => by cases hr) List.Pairwise.nil))
    · simp only [List.mem_cons, List.mem_nil_iff, or_false] at hr
      rw [eB _ (Agree.refl _ _)]
      rcases hr with rfl | rfl
      · exact Hl.one_dis.2 fun h => d1 a ⟨hm, h⟩
      · exact Hl.one_dis.2 fun h => d2 a ⟨hm, h⟩
    · rw [List.mem_singleton] at hr
      subst hr
      exact d3
  · intro r hr
    simp only [becomeW, List.mem_cons, List.mem_nil_iff, or_false] at hr
    rcases hr with rfl | rfl | rfl
    · show (0 : Int) ≤ (a : Int); omega
    · trivial
    · trivial
  · show Nd.holds _ _ _ becomeNd
    generalize hρ : becEnv a x all.length c nt da L sx sy n sc HA HD = ρ at eB ⊢
    have v0 : ρ.i 0 = a := by rw [← hρ]; rfl
    have v1 : ρ.i 1 = x := by rw [← hρ]; rfl
    have v2 : ρ.i 2 = 0 := by rw [← hρ]; rfl
    have v3 : ρ.i 3 = all.length := by rw [← hρ]; rfl
    have v4 : ρ.i 4 = c := by rw [← hρ]; rfl
    have v45 : ρ.i 45 = n := by rw [← hρ]; rfl
    have b60 : ρ.b 60 = true := by rw [← hρ]; rfl
    have w48 : ρ.h 48 = HA := by rw [← hρ]; rfl
    have w49 : ρ.h 49 = HD := by rw [← hρ]; rfl
    have rk : ∀ k, k < 22 → ρ.i (21 + k) = (lInts da L).getD k 0 := fun k hk => by
      rw [← hρ]
      show (if 21 + k < 5 then _ else if 21 + k < 21 then _ else if 21 + k < 43 then (lInts da L).getD (21 + k - 21) 0 else _) = _
      rw [if_neg (by omega), if_neg (by omega), if_pos (by omega), show 21 + k - 21 = k by omega]
    have rn : ∀ k, k < 16 → ρ.i (5 + k) = nt.getD k 0 := fun k hk => by
      rw [← hρ]
      show (if 5 + k < 5 then _ else if 5 + k < 21 then nt.getD (5 + k - 5) 0 else _) = _
      rw [if_neg (by omega), if_pos (by omega), show 5 + k - 5 = k by omega]
    unfold becomeNd
    simp only [Nd.holds, X.pre, X.rel, X.n, Src.ok, Src.len, Src.vals, true_and, and_true, if_true, Nat.mul_one, Nat.add_zero, Nat.reduceAdd, List.length_cons, List.length_nil, bT_tt, bT_ff, bT_bvar, bT_not, bT_and, bT_or, bT_ite, bT_lt, bT_le, bT_eq, bT_beq, bT_seq, bT_hB, bT_his, bT_hby, bT_hism, bT_hks, iev_lit, iev_var, iev_add, iev_sub, iev_mul, iev_wrap, iev_ite, iev_hI, iev_hP, iev_hmlen, sev_ite, sev_slit, sev_sof, sev_svar, TV.ev, SV.ev, CV.ev, List.map_cons, List.map_nil, Res.hl, cpTV, Cp.sv, Ck.cv, cpSVs, Cp.len, Ck.len, newHs_zero, newHs_one, roots_ne, bg0, bg1, br0, br1]
    intro q1 g1 _
    rw [g1.i 3 (by omega), v3]
    refine ⟨by omega, fun q2 g2 _ => ?_⟩
    have G2 : Agree 61 ρ q2 := g1.trans (g2.mono (by omega))
    rw [G2.b 60 (by omega), b60]
    refine ⟨fun _ => ?_, fun h => absurd rfl h⟩
    rw [G2.i 0 (by omega), v0, G2.i 1 (by omega), v1, G2.i 2 (by omega), v2, G2.i 3 (by omega), v3, G2.i 4 (by omega), v4, G2.i 45 (by omega), v45, G2.h 48 (by omega), w48, G2.h 49 (by omega), w49, dArg, Int.toNat_natCast, Int.toNat_natCast, ← hu]
    have ls : ∀ q : Env, Agree 61 ρ q → CV.ev q (.sl (.var 43) (.var 44) (.var 45) (.var 46)) = sl := by
      intro q g
      simp only [CV.ev, iev_var, g.i 43 (by omega), g.i 44 (by omega), g.i 45 (by omega), g.i 46 (by omega)]
      rw [← hρ, hsl']
      show Value.slice (slP sx sy) ((n : Int)).toNat ((sc : Int)).toNat = _
      rw [Int.toNat_natCast, Int.toNat_natCast]
    have lk : ∀ q : Env, Agree 61 ρ q → ∀ k, k < 22 → q.i (21 + k) = (lInts da L).getD k 0 := fun q g k hk => by rw [g.i _ (by omega)]; exact rk k hk
    have eB2 : ∀ q : Env, Agree 61 ρ q → Hl.one a (Obj.cells (List.map (CV.ev q) (ckCVs 21 ([Ck.ptr, Ck.int IntKind.i64, Ck.int IntKind.i64, Ck.int IntKind.u64, Ck.int IntKind.u64] ++ List.replicate 16 (Ck.int IntKind.u8) ++ [Ck.sl, Ck.bool]))).toArray 81 (0, 0)) = Hl.one a (lObj dp sl L) := by
      intro q g
      have h : Hl.one (q.i 0).toNat (Obj.cells (List.map (CV.ev q) (ckCVs 21 ([Ck.ptr, Ck.int IntKind.i64, Ck.int IntKind.i64, Ck.int IntKind.u64, Ck.int IntKind.u64] ++ List.replicate 16 (Ck.int IntKind.u8) ++ [Ck.sl, Ck.bool]))).toArray 81 (0, 0)) = Hl.one a (lObj dp sl L) := eB q g
      rw [g.i 0 (by omega), v0, Int.toNat_natCast] at h
      exact h
    have eT : ∀ q : Env, Agree 61 ρ q → (Res.blk 0 (ckCVs 21 ([Ck.ptr, Ck.int IntKind.i64, Ck.int IntKind.i64, Ck.int IntKind.u64, Ck.int IntKind.u64] ++ List.replicate 16 (Ck.int IntKind.u8) ++ [Ck.sl]) ++ [CV.bool E.tt]) 81).hl q = Hl.one a (lObj dp sl (overL L)) := by
      intro q g
      have h : (Res.blk 0 (ckCVs 21 ([Ck.ptr, Ck.int IntKind.i64, Ck.int IntKind.i64, Ck.int IntKind.u64, Ck.int IntKind.u64] ++ List.replicate 16 (Ck.int IntKind.u8) ++ [Ck.sl]) ++ [CV.bool E.tt]) 81).hl q = Hl.one (q.i 0).toNat (.cells ((ckCVs 21 logK ++ [CV.sl (.var 43) (.var 44) (.var 45) (.var 46), .bool .tt]).map (CV.ev q)).toArray 81 (0, 0)) := rfl
      rw [h, List.map_append, logK_ev hL.1 (lk q g), g.i 0 (by omega), v0, List.map_cons, List.map_cons, List.map_nil, ls q g, List.append_assoc, ← hdp, Int.toNat_natCast]
      rfl
    have eN : ∀ q : Env, Agree 61 ρ q → (ckCVs 5 (List.replicate 16 (Ck.int IntKind.u8))).map (CV.ev q) = bys nt := fun q g => u8_ev 16 5 nt hnt fun k hk => by rw [g.i _ (by omega)]; exact rn k hk
    have i23 : ∀ q : Env, Agree 61 ρ q → q.i 21 = da ∧ q.i 22 = 0 ∧ q.i 23 = L.frm ∧ q.i 24 = L.most ∧ q.i 25 = L.serial := fun q g => ⟨lk q g 0 (by omega), lk q g 1 (by omega), lk q g 2 (by omega), lk q g 3 (by omega), lk q g 4 (by omega)⟩
    have wS : IntKind.u64.wrap (L.serial + 1) = L.serial + 1 := wrap_u64 (by omega) (by omega)
    have wL : IntKind.u64.wrap (all.length : Int) = all.length := wrap_u64 (by omega) (by omega)
    have eH : ∀ q : Env, Agree 61 ρ q → List.map (CV.ev q) ([CV.int IntKind.u64 (E.wrap IntKind.u64 ((E.var 25).add (E.lit 1))), CV.int IntKind.u64 (E.wrap IntKind.u64 (E.var 3))] ++ ckCVs 5 (List.replicate 16 (Ck.int IntKind.u8))) = hdV (newH L all nt) := by
      intro q g
      rw [List.map_append, eN q g]
      show [Value.int .u64 (IntKind.u64.wrap (q.i 25 + 1)), Value.int .u64 (IntKind.u64.wrap (q.i 3))] ++ bys nt = _
      rw [(i23 q g).2.2.2.2, g.i 3 (by omega), v3, wS, wL]; rfl
    have eG : ∀ q : Env, Agree 61 ρ q → (Res.blk 0 ([CV.hptr (E.var 21) (E.var 22), CV.int IntKind.i64 (E.var 23), CV.int IntKind.i64 (E.var 24), CV.int IntKind.u64 (E.wrap IntKind.u64 ((E.var 25).add (E.lit 1))), CV.int IntKind.u64 (E.wrap IntKind.u64 (E.var 3))] ++ ckCVs 5 (List.replicate 16 (Ck.int IntKind.u8)) ++ [CV.sl (E.var 1) (E.var 2) (E.var 3) (E.var 4), CV.bool (E.bvar 47)]) 81).hl q = Hl.one a (lObj dp u (grownL L all nt)) := by
      intro q g
      show Hl.one (q.i 0).toNat (.cells (List.map (CV.ev q) _).toArray _ (0, 0)) = _
      rw [List.map_append, List.map_append, eN q g]
      obtain ⟨j0, j1, j2, j3, j4⟩ := i23 q g
      have eb : q.b 47 = L.over := by rw [g.b 47 (by omega), ← hρ]; rfl
      show Hl.one (q.i 0).toNat (.cells ([Value.pointer (slP (q.i 21) (q.i 22)), .int .i64 (q.i 23), .int .i64 (q.i 24), .int .u64 (IntKind.u64.wrap (q.i 25 + 1)), .int .u64 (IntKind.u64.wrap (q.i 3))] ++ bys nt ++ [Value.slice (slP (q.i 1) (q.i 2)) (q.i 3).toNat (q.i 4).toNat, .bool (q.b 47)]).toArray _ (0, 0)) = _
      rw [j0, j1, j2, j3, j4, eb, g.i 0 (by omega), v0, g.i 1 (by omega), v1, g.i 2 (by omega), v2, g.i 3 (by omega), v3, g.i 4 (by omega), v4, wS, wL, dArg, ← hdp, Int.toNat_natCast, Int.toNat_natCast, Int.toNat_natCast, ← hu, List.append_assoc]
      rfl
    have hRd : LogRd (Hl.one a (lObj dp sl L)) (.pointer (some ⟨a, 0, none⟩)) dp sl L := ⟨a, rfl, hL.1, Hl.one_self _ _⟩
    have bad : ∀ (q : Env) (k : Nat) (vs : List Nat) (t : Mem) (r : Int × DM), Agree 61 ρ q → becomeR D L all nt n = r → r.1 = 5 → DiskAt (q.h k) dp r.2 →
        postOf becomeS [.pointer (some ⟨a, 0, none⟩), u, .agg (bys nt).toArray, .bool true] [H, HA, HD] [] q (.blk 0 (ckCVs 21 ([Ck.ptr, Ck.int IntKind.i64, Ck.int IntKind.i64, Ck.int IntKind.u64, Ck.int IntKind.u64] ++ List.replicate 16 (Ck.int IntKind.u8) ++ [Ck.sl]) ++ [CV.bool E.tt]) 81 :: .hp 48 [] [.var 1] [] :: .hp k vs [.var 21] [] :: t) (.sv (.one (.int .i64 (.lit 5)))) := by
      intro q k vs t r hq hr h5 hd _
      refine ⟨[[0], [1], [2]], [], rfl, rfl, ⟨⟨fun _ => 5, fun _ => false, fun _ => .empty, fun _ => .tuple #[], fun _ => Hl.none⟩, rfl, trivial, trivial⟩, _, a, u, all, nt, H, HA, HD, dp, sl, L, n, D, _, _, _, rfl, rfl, rfl, hL, hsl, hO, hD, rfl, ?_, ?_, fun h => ?_, fun _ => ?_⟩
      · show DiskAt (hls [q.h k]) _ _
        rw [hls_one, hr]; exact hd
      · rw [hr, h5]; rfl
      · rw [hr, h5] at h; cases h
      · show hls [_] = _
        rw [hls_one]; exact eT q hq
    rw [Int.toNat_natCast, eB2 q2 G2]
    refine ⟨by omega, ⟨_, u, all, n, HD, _, HA, dp, sl, L, D, rfl, rfl, rfl, hRd, hO, hD, by omega, by omega, by omega⟩, fun q3 g3 ⟨F, ⟨p', u', all', fr', Hx, R1, R2, dp', sl', L', Dx, H2, hx, hH, hR, hLx, hOx, hDx, hH2, hD2, hvq⟩, _, _⟩ => ?_⟩
    have hx : Value.pointer (some ⟨a, 0, none⟩) = p' ∧ u = u' ∧ (n : Int) = fr' := by simpa using hx
    obtain ⟨rfl, rfl, rfl⟩ := hx
    have hH : HD = Hx := by simpa using hH
    subst hH
    have hR : Hl.one a (lObj dp sl L) = R1 ∧ HA = R2 := by simpa using hR
    obtain ⟨rfl, rfl⟩ := hR
    obtain ⟨rfl, rfl, rfl⟩ := hRd.uniq hLx
    have e := hOx.rd.uniq hO.rd
    subst e
    have e := hDx.uniq hD
    subst e
    have hH2 : q3.h 63 = H2 := by simpa using hH2
    rw [← hH2] at hD2
    have hvq : q3.i 63 = (fillR Dx L.frm all' n).1 := by simpa using hvq
    have G3 : Agree 61 ρ q3 := G2.trans (g3.mono (by omega))
    rw [G3.i 0 (by omega), v0, dArg, Int.toNat_natCast, eB2 q3 G3, eH q3 G3]
    have hNH : headOK (newH L all' nt) := ⟨by simp [newH, hnt], ⟨by show 0 ≤ L.serial + 1; omega, by show L.serial + 1 < _; omega⟩, by show (0 : Int) ≤ (all'.length : Int); omega, by show (all'.length : Int) < _; omega⟩
    refine ⟨fun h63 => ⟨⟨_, _, _, _, dp, sl, L, _, rfl, rfl, rfl, hRd, hD2, hNH⟩, fun q4 g4 ⟨F, ⟨p', h', Hx, R1, dp', sl', L', Dy, H3, hx, hH, hR, hLy, hDy, hh', hH3, hD3, hvt⟩, _, _⟩ => ?_⟩, fun h63 => bad q3 63 _ _ (5, (fillR Dx L.frm all' n).2) G3 (by unfold becomeR; rw [if_pos (by rw [← hvq]; exact h63)]) rfl hD2⟩
    have hx : Value.pointer (some ⟨a, 0, none⟩) = p' ∧ Value.agg (hdV (newH L all' nt)).toArray = Value.agg (hdV h').toArray := by simpa using hx
    obtain ⟨rfl, hx2⟩ := hx
    have e := hdV_inj hNH.1 hh'.1 hx2
    subst e
    have hH : q3.h 63 = Hx := by simpa using hH
    subst hH
    have hR : Hl.one a (lObj dp sl L) = R1 := by simpa using hR
    subst hR
    obtain ⟨rfl, rfl, rfl⟩ := hRd.uniq hLy
    have e := hDy.uniq hD2
    subst e
    have hH3 : q4.h 65 = H3 := by simpa using hH3
    rw [← hH3] at hD3
    have hvt : q4.i 65 = (turnR (fillR Dx L.frm all' n).2 L.frm (newH L all' nt)).1 := by simpa using hvt
    have G4 : Agree 61 ρ q4 := G3.trans (g4.mono (by omega))
    have hnb : ¬ (fillR Dx L.frm all' n).1 ≠ 0 := by rw [← hvq, h63]; simp
    refine ⟨fun h65 => bad q4 65 _ _ (5, (turnR (fillR Dx L.frm all' n).2 L.frm (newH L all' nt)).2) G4 (by unfold becomeR; rw [if_neg hnb, if_pos (by rw [← hvt]; exact h65)]) rfl hD3, fun h65 hd => ?_⟩
    have hr : becomeR Dx L all' nt n = (0, (turnR (fillR Dx L.frm all' n).2 L.frm (newH L all' nt)).2) := by
      unfold becomeR
      rw [if_neg hnb, if_neg (by rw [← hvt, h65]; simp)]
    have hd01 := hd 0 1 _ _ (by decide) rfl rfl rfl
    rw [eG q4 G4] at hd01
    refine ⟨[[0, 1], [], [2]], [], rfl, rfl, ⟨⟨fun _ => 0, fun _ => false, fun _ => .empty, fun _ => .tuple #[], fun _ => Hl.none⟩, rfl, trivial, trivial⟩, _, a, u, all', nt, H, HA, HD, dp, sl, L, n, Dx, _, _, _, rfl, rfl, rfl, hL, hsl, hO, hD, rfl, ?_, ?_, fun _ => ?_, fun h => ?_⟩
    · show DiskAt (hls [q4.h 65]) _ _
      rw [hls_one, hr]; exact hD3
    · rw [hr]; rfl
    · have e48 : q4.h 48 = HA := by rw [G4.h 48 (by omega), w48]
      have hd01 : (Hl.one a (lObj dp u (grownL L all' nt))).dis (q4.h 48) := hd01
      rw [e48] at hd01
      refine ⟨a, u, HA, rfl, ⟨hL.1.frm, hL.1.most, hnt⟩, hO, hd01, ?_⟩
      rw [← e48]
      exact congrArg (fun z => hls [z, q4.h 48]) (eG q4 G4)
    · rw [hr] at h; exact absurd rfl h
end Go.Proofs.YtomdimlnggpgbaaDoor.D
