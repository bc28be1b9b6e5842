/- Layer 5: what is put together: Raw, Flag, Text, End, and the reference's Num, as contracts. Condition: at most 900000 bytes. -/
import Derived.Test.YtomdimlnggpgbaaDoorPkG
set_option linter.unusedSimpArgs false
set_option linter.unusedVariables false
set_option linter.constructorNameAsVariable false
namespace Go.Proofs.YtomdimlnggpgbaaDoor
open Go Go.Sx Go.Pk

/-! ### Raw -/
def oRawS : Sx.Spec where
  fn := 82
  own := [.arg 0]
  rd := [1]
  res := []
  pre := fun xs Hs Rs => ∃ p u H R bs lg b2, xs = [p, u] ∧ Hs = [H] ∧ Rs = [R] ∧ OutAt H p bs lg ∧ RdW R u b2 ∧ bs.length ≤ 900000 ∧ b2.length ≤ 90000
  post := fun xs Hs Rs v Hs' F => ∃ p u H R bs lg b2 H', xs = [p, u] ∧ Hs = [H] ∧ Rs = [R] ∧ OutAt H p bs lg ∧ RdW R u b2 ∧ Hs' = [H'] ∧ OutAt H' p (bs ++ b2) lg
def oRawNd : Nd := .and (.pre (.app 13 5 1 1 (.sl (.var 1) (.lit 0) (.var 2) (.var 3)) (.var 2) (.hp 7 [] [.var 1] []) (.seg 12 (.var 8) (.var 9) (.var 10)))) (.ext (.app 13 5 1 1 (.sl (.var 1) (.lit 0) (.var 2) (.var 3)) (.var 2) (.hp 7 [] [.var 1] []) (.seg 12 (.var 8) (.var 9) (.var 10))) (.post [.blk 0 [.sl (.var 13) (.lit 0) (.add (.var 2) (.var 10)) (.var 14), .bool (.bvar 6)] 124, .hp 13 [7] [.var 13, .var 1] [], .ro 12 [.var 8] false] (.tup [])))
def oRawW : Walk Tryd.prog [] oRawS.fn where
  Λ := noLoops
  args := [TP (.var 0) (.lit 0), .sv (.one (.sl (.var 8) (.var 9) (.var 10) (.var 11)))]
  mem := outMem ++ [.ro 12 [.var 8] false]
  nv := 13
  nd := oRawNd
  ok := by kernel_rfl
theorem oRawS_ok : oRawS.OK Tryd.prog := by
  refine Spec.of_fn (Γ := []) (fun _ h => by cases h) ?_
  rintro xs Hs Rs hl1 hl2 ⟨p, u, H, R, bs, lg, b2, rfl, rfl, rfl, ⟨a, x, c, F, rfl, h⟩, hRd, hlen, hl2'⟩
  obtain ⟨x2, y2, c2, rfl, hy2, hR⟩ := id hRd
  refine ⟨oRawW, outEnv a x c bs.length lg F 0 [x2, y2, b2.length, c2] R, fun _ _ => True, fun _ _ => 0, ?_, outEntry2 h 0 _ R _, (fun _ h => nomatch h), ?_⟩
  · show [Value.pointer (slP (a : Int) 0), Value.slice (slP x2 y2) ((b2.length : Int)).toNat ((c2 : Int)).toNat] = _
    rw [ptr0, Int.toNat_natCast, Int.toNat_natCast]
  · show Nd.holds _ _ _ oRawNd
    generalize hρ : outEnv a x c bs.length lg F 0 [x2, y2, b2.length, c2] R = ρ
    have v0 : ρ.i 0 = a := by rw [← hρ]; rfl
    have v1 : ρ.i 1 = x := by rw [← hρ]; rfl
    have v2 : ρ.i 2 = bs.length := by rw [← hρ]; rfl
    have v3 : ρ.i 3 = c := by rw [← hρ]; rfl
    have v8 : ρ.i 8 = x2 := by rw [← hρ]; rfl
    have v9 : ρ.i 9 = y2 := by rw [← hρ]; rfl
    have v10 : ρ.i 10 = b2.length := by rw [← hρ]; rfl
    have b6 : ρ.b 6 = lg := by rw [← hρ]; rfl
    have w7 : ρ.h 7 = F := by rw [← hρ]; rfl
    have w12 : ρ.h 12 = R := by rw [← hρ]; rfl
    clear hρ
    unfold oRawNd
    simp only [Nd.holds, X.pre, X.rel, X.n, Src.ok, Src.len, Src.vals, true_and, and_true, if_true, Nat.mul_one, Nat.add_zero, Nat.reduceAdd, List.length_cons, List.length_nil, bT_tt, bT_ff, bT_bvar, bT_not, bT_and, bT_or, bT_ite, bT_lt, bT_le, bT_eq, bT_beq, bT_seq, bT_hB, bT_his, bT_hby, bT_hism, bT_hks, iev_lit, iev_var, iev_add, iev_sub, iev_mul, iev_wrap, iev_ite, iev_hI, iev_hP, iev_hmlen, sev_ite, sev_slit, sev_sof, sev_svar, TV.ev, SV.ev, CV.ev, List.map_cons, List.map_nil, Res.hl]
    rw [v1, v2, v3, v8, v9, v10, w7, w12]
    obtain ⟨hok, hseg⟩ := seg_of (R := R) (x := x2) (y := y2) (l := (b2.length : Int)) rfl hy2 hR
    have hO : OwB F 5 (.slice (slP x 0) ((bs.length : Int)).toNat c.toNat) bs := h.own
    refine ⟨⟨⟨_, owB_pre hO rfl⟩, by omega, by simpa using hok, by rw [Int.toNat_natCast, Int.toNat_natCast]; unfold maxLen; omega, by rw [Int.toNat_natCast, Int.toNat_natCast]; omega⟩, fun q2 g2 ⟨a1, a2, a3, _⟩ hd => ?_⟩
    rw [hseg] at a3
    have hO2 := owB_app (bs2 := b2) (m := ((b2.length : Int)).toNat) hO rfl (Int.toNat_natCast _) a3
    refine ⟨[[0, 1]], [], rfl, rfl, ⟨⟨fun _ => 0, fun _ => false, fun _ => .empty, fun _ => .tuple #[], fun _ => Hl.none⟩, rfl, trivial⟩, _, _, H, R, bs, lg, b2, _, rfl, rfl, rfl, ⟨a, x, c, F, rfl, h⟩, hRd, rfl, outOut (by rw [g2.i 0 (by omega), v0]) a1 ?_ a2 (by rw [bev_bvar, g2.b 6 (by omega), b6]) hO2 hd⟩
    show q2.i 2 + q2.i 10 = ((bs ++ b2).length : Int)
    rw [g2.i 2 (by omega), g2.i 10 (by omega), v2, v10, List.length_append]; omega
/-! ### Flag -/
def flagAct (l : List Value) (bs : List Int) : List Int := bs ++ [if valB l[0]? = true then 1 else 0]
def flagOk (l : List Value) (_ : List Int) : Prop := ∃ b : Bool, l = [.bool b]
def oFlagS : Sx.Spec := outOp 81 flagOk flagAct
def oFlagNd : Nd := .and (.imp (.bvar 5) (.ext (.alloc 8) (.and (.pre (.app 9 5 1 1 (.sl (.var 1) (.lit 0) (.var 2) (.var 3)) (.var 2) (.hp 7 [] [.var 1] []) (.cvs [.int .u8 (.lit 1)] 1))) (.ext (.app 9 5 1 1 (.sl (.var 1) (.lit 0) (.var 2) (.var 3)) (.var 2) (.hp 7 [] [.var 1] []) (.cvs [.int .u8 (.lit 1)] 1)) (.post [.blk 0 [.sl (.var 9) (.lit 0) (.add (.var 2) (.lit 1)) (.var 10), .bool (.bvar 6)] 124, .hp 9 [7] [.var 9, .var 1] [], .dead] (.tup [])))))) (.imp (.not (.bvar 5)) (.ext (.alloc 8) (.and (.pre (.app 9 5 1 1 (.sl (.var 1) (.lit 0) (.var 2) (.var 3)) (.var 2) (.hp 7 [] [.var 1] []) (.cvs [.int .u8 (.lit 0)] 1))) (.ext (.app 9 5 1 1 (.sl (.var 1) (.lit 0) (.var 2) (.var 3)) (.var 2) (.hp 7 [] [.var 1] []) (.cvs [.int .u8 (.lit 0)] 1)) (.post [.blk 0 [.sl (.var 9) (.lit 0) (.add (.var 2) (.lit 1)) (.var 10), .bool (.bvar 6)] 124, .hp 9 [7] [.var 9, .var 1] [], .dead] (.tup []))))))
def oFlagW : Walk Tryd.prog [] 81 where
  Λ := noLoops
  args := [TP (.var 0) (.lit 0), .sv (.one (.bool (.bvar 5)))]
  mem := outMem
  nv := 8
  nd := oFlagNd
  ok := by kernel_rfl
theorem outEntryB {H F : Hl} {a : Nat} {x c : Int} {bs : List Int} {lg : Bool} (h : OutIn H a x c F bs lg) (b5 : Bool) : Entry { outEnv a x c bs.length lg F 0 [] Hl.none with b := fun k => if k = 5 then b5 else lg } outMem [H] [] := by
  obtain ⟨h1, h2, h3, h4⟩ := outEntry h 0 [] Hl.none
  refine ⟨fun r hr ho => ?_, fun r hr ho => ?_, ?_, fun r hr => ?_⟩
  · obtain ⟨K, hK, hle⟩ := h1 r hr ho
    refine ⟨K, hK, ?_⟩
    simp only [outMem, List.mem_cons, List.mem_nil_iff, or_false] at hr
    rcases hr with rfl | rfl <;> exact hle
  · simp only [outMem, List.mem_cons, List.mem_nil_iff, or_false] at hr
    rcases hr with rfl | rfl <;> cases ho
  · exact h3.imp (fun {r s} hrs => hrs) |> fun _ => by
      unfold outMem at h3 ⊢
      refine List.Pairwise.cons (fun r hr _ _ => ?_) (List.Pairwise.cons (fun r hr => by cases hr) List.Pairwise.nil)
      rw [List.mem_singleton] at hr
      subst hr
      exact (List.pairwise_cons.1 h3).1 _ (List.mem_singleton.2 rfl) rfl rfl
  · simp only [outMem, List.mem_cons, List.mem_nil_iff, or_false] at hr
    rcases hr with rfl | rfl
    · show (0 : Int) ≤ (a : Int); omega
    · trivial
theorem oFlagS_ok : oFlagS.OK Tryd.prog := by
  refine Spec.of_fn (Γ := []) (fun _ h => by cases h) ?_
  rintro xs Hs Rs hl1 hl2 ⟨p, zv, H, bs, lg, rfl, rfl, ⟨a, x, c, F, rfl, h⟩, ⟨b, hb⟩, hlen⟩
  have hb : zv = .bool b := by simpa using hb
  subst hb
  have e1 : Rs = [] := List.length_eq_zero_iff.1 hl2
  subst e1
  refine ⟨oFlagW, { outEnv a x c bs.length lg F 0 [] Hl.none with b := fun k => if k = 5 then b else lg }, fun _ _ => True, fun _ _ => 0, ?_, outEntryB h b, (fun _ h => nomatch h), ?_⟩
  · show [Value.pointer (slP (a : Int) 0), Value.bool b] = _
    rw [ptr0]
  · show Nd.holds _ _ _ oFlagNd
    generalize hρ : ({ outEnv a x c bs.length lg F 0 [] Hl.none with b := fun k => if k = 5 then b else lg } : Env) = ρ
    have v0 : ρ.i 0 = a := by rw [← hρ]; rfl
    have v1 : ρ.i 1 = x := by rw [← hρ]; rfl
    have v2 : ρ.i 2 = bs.length := by rw [← hρ]; rfl
    have v3 : ρ.i 3 = c := by rw [← hρ]; rfl
    have b5 : ρ.b 5 = b := by rw [← hρ]; rfl
    have b6 : ρ.b 6 = lg := by rw [← hρ]; rfl
    have w7 : ρ.h 7 = F := by rw [← hρ]; rfl
    clear hρ
    have hO : OwB F 5 (.slice (slP x 0) ((bs.length : Int)).toNat c.toNat) bs := h.own
    have fin : ∀ (q2 : Env) (z : Int) (t : Mem), Agree 8 ρ q2 → -1 ≤ q2.i 9 → 0 ≤ q2.i 10 → (if b = true then (1 : Int) else 0) = z → (∀ xs, OwnsH F 5 1 (.slice (slP x 0) ((bs.length : Int)).toNat c.toNat) ((bs.length : Int)).toNat xs → OwnsH (q2.h 9) 5 1 (.slice (slP (q2.i 9) 0) (((bs.length : Int)).toNat + 1) (q2.i 10).toNat) (((bs.length : Int)).toNat + 1) (xs ++ bys [z])) →
        postOf oFlagS [.pointer (some ⟨a, 0, none⟩), .bool b] [H] [] q2 (.blk 0 [.sl (.var 9) (.lit 0) (.add (.var 2) (.lit 1)) (.var 10), .bool (.bvar 6)] 124 :: .hp 9 [7] [.var 9, .var 1] [] :: t) (.tup []) := by
      intro q2 z t G a1 a2 hz a3 hd
      have hO2 := owB_app (bs2 := [z]) (m := 1) hO rfl rfl a3
      refine ⟨[[0, 1]], [], rfl, rfl, ⟨⟨fun _ => 0, fun _ => false, fun _ => .empty, fun _ => .tuple #[], fun _ => Hl.none⟩, rfl, trivial⟩, _, _, H, bs, lg, _, rfl, rfl, ⟨a, x, c, F, rfl, h⟩, rfl, ?_⟩
      have ea : flagAct [Value.bool b] bs = bs ++ [z] := by rw [← hz]; rfl
      rw [ea]
      refine outOut (by rw [G.i 0 (by omega), v0]) a1 ?_ a2 (by rw [bev_bvar, G.b 6 (by omega), b6]) hO2 hd
      show q2.i 2 + 1 = ((bs ++ [z]).length : Int)
      rw [G.i 2 (by omega), v2, List.length_append, List.length_singleton]; omega
    unfold oFlagNd
    simp only [Nd.holds, X.pre, X.rel, X.n, Src.ok, Src.len, Src.vals, true_and, and_true, if_true, Nat.mul_one, Nat.add_zero, Nat.reduceAdd, List.length_cons, List.length_nil, bT_tt, bT_ff, bT_bvar, bT_not, bT_and, bT_or, bT_ite, bT_lt, bT_le, bT_eq, bT_beq, bT_seq, bT_hB, bT_his, bT_hby, bT_hism, bT_hks, iev_lit, iev_var, iev_add, iev_sub, iev_mul, iev_wrap, iev_ite, iev_hI, iev_hP, iev_hmlen, sev_ite, sev_slit, sev_sof, sev_svar, TV.ev, SV.ev, CV.ev, List.map_cons, List.map_nil, Res.hl]
    rw [b5]
    refine ⟨fun hb q1 g1 _ => ?_, fun hb q1 g1 _ => ?_⟩
    all_goals
      rw [g1.i 1 (by omega), g1.i 2 (by omega), g1.i 3 (by omega), g1.h 7 (by omega), v1, v2, v3, w7]
      refine ⟨⟨⟨_, owB_pre hO rfl⟩, by omega, by rw [Int.toNat_natCast]; unfold maxLen; omega, by rw [Int.toNat_natCast]; omega⟩, fun q2 g2 ⟨a1, a2, a3, _⟩ => ?_⟩
    · exact fin q2 1 _ (g1.trans (g2.mono (by omega))) a1 a2 (if_pos hb) a3
    · exact fin q2 0 _ (g1.trans (g2.mono (by omega))) a1 a2 (if_neg hb) a3
/-! ### Text -/
def textBytes (b : List Int) : List Int := numB b.length ++ b
def outText (bs : List Int) (lg : Bool) (b2 : List Int) : List Int × Bool := if 4096 < b2.length then (bs, true) else (bs ++ textBytes b2, lg)
def oTextS : Sx.Spec where
  fn := 95
  own := [.arg 0]
  rd := [1]
  res := []
  pre := fun xs Hs Rs => ∃ p u H R bs lg b2, xs = [p, u] ∧ Hs = [H] ∧ Rs = [R] ∧ OutAt H p bs lg ∧ RdW R u b2 ∧ bs.length ≤ 800000 ∧ b2.length ≤ 1000000
  post := fun xs Hs Rs v Hs' F => ∃ p u H R bs lg b2 H', xs = [p, u] ∧ Hs = [H] ∧ Rs = [R] ∧ OutAt H p bs lg ∧ RdW R u b2 ∧ Hs' = [H'] ∧ OutAt H' p (outText bs lg b2).1 (outText bs lg b2).2
def oTextNd : Nd := .and (.e (.le (.lit 0) (.var 10))) (.and (.imp (.lt (.lit 4096) (.var 10)) (.and (.e (.le (.lit 0) (.var 0))) (.and (.pre (.put 13 1 (.var 0) (.lit 1) [.bool .tt])) (.ext (.put 13 1 (.var 0) (.lit 1) [.bool .tt]) (.post [.hp 13 [1] [.var 0] [], .ro 12 [.var 8] false] (.tup [])))))) (.imp (.not (.lt (.lit 4096) (.var 10))) (.and (.pre (.call 0 13 [.sv (.one (.hptr (.var 0) (.lit 0))), .sv (.one (.int .u64 (.wrap .u64 (.var 10))))] [.hp 1 [] [.var 0] []] [])) (.ext (.call 0 13 [.sv (.one (.hptr (.var 0) (.lit 0))), .sv (.one (.int .u64 (.wrap .u64 (.var 10))))] [.hp 1 [] [.var 0] []] []) (.and (.pre (.call 1 15 [.sv (.one (.hptr (.var 0) (.lit 0))), .sv (.one (.sl (.var 8) (.var 9) (.var 10) (.var 11)))] [.hp 13 [1] [.var 0] []] [.ro 12 [.var 8] false])) (.ext (.call 1 15 [.sv (.one (.hptr (.var 0) (.lit 0))), .sv (.one (.sl (.var 8) (.var 9) (.var 10) (.var 11)))] [.hp 13 [1] [.var 0] []] [.ro 12 [.var 8] false]) (.post [.hp 15 [13, 1] [.var 0] [], .ro 12 [.var 8] false] (.tup []))))))))
def oΓ : List Sx.Spec := [oNumS, oRawS, cloneBS]
theorem oΓ_ok : ∀ t ∈ oΓ, t.OK Tryd.prog := fun t ht => by
  simp only [oΓ, List.mem_cons, List.mem_nil_iff, or_false] at ht
  rcases ht with rfl | rfl | rfl
  · exact oNumS_ok
  · exact oRawS_ok
  · exact cloneBS_ok
theorem og0 : oΓ[0]? = some oNumS := rfl
theorem og1 : oΓ[1]? = some oRawS := rfl
theorem og2 : oΓ[2]? = some cloneBS := rfl
theorem or0 : oNumS.res = [] := rfl
theorem or1 : oRawS.res = [] := rfl
def oTextW : Walk Tryd.prog oΓ oTextS.fn where
  Λ := noLoops
  args := [TP (.var 0) (.lit 0), .sv (.one (.sl (.var 8) (.var 9) (.var 10) (.var 11)))]
  mem := [.hp 1 [] [.var 0] [], .ro 12 [.var 8] false]
  nv := 13
  nd := oTextNd
  ok := by kernel_rfl
theorem OutAt.setLong {H : Hl} {a : Nat} {bs : List Int} {lg : Bool} (h : OutAt H (.pointer (some ⟨a, 0, none⟩)) bs lg) : H.wr a 1 1 = true ∧ OutAt (H.put a 1 [.bool true]) (.pointer (some ⟨a, 0, none⟩)) bs true := by
  obtain ⟨a', x, c, F, e, h⟩ := h
  simp only [Value.pointer.injEq, Option.some.injEq, Addr.mk.injEq, and_true] at e
  subst e
  obtain ⟨l1, _⟩ := h.le
  have e := l1 a _ (Hl.one_self _ _)
  refine ⟨by unfold Hl.wr; rw [e]; rfl, a, x, c, F, rfl, h.rx, h.rc, h.own, h.na, ?_⟩
  rw [h.hl]
  funext k
  unfold Hl.put
  by_cases hk : k = a
  · subst hk
    rw [if_pos rfl]
    have e2 : hls [outS k x c bs.length lg, F] k = some (.cells #[svb x bs.length c, .bool lg] 124 (0, 0)) := by rw [← h.hl]; exact e
    have e3 : hls [outS k x c bs.length true, F] k = some (.cells #[svb x bs.length c, .bool true] 124 (0, 0)) := Hl.un_at_left (Hl.one_self _ _)
    rw [e2]
    exact e3.symm
  · rw [if_neg hk]
    have n1 : ∀ g : Bool, ¬ (outS a x c bs.length g).mem k := fun g hm => hk (Hl.one_mem.1 hm)
    show ((outS a x c bs.length lg).un _) k = ((outS a x c bs.length true).un _) k
    rw [Hl.un_at_right (n1 _), Hl.un_at_right (n1 _)]
theorem op_post {f : FuncId} {ok : List Value → List Int → Prop} {act : List Value → List Int → List Int} {p z v : Value} {H F : Hl} {K Rs : List Hl} {bs : List Int} {lg : Bool} (h : OutAt H p bs lg) (hp : (outOp f ok act).post [p, z] [H] Rs v K F) : ∃ H', K = [H'] ∧ OutAt H' p (act [z] bs) lg := by
  obtain ⟨p', z', Hx, bs', lg', H', hx, hH, hO, hK, hO'⟩ := hp
  have hx : p = p' ∧ z = z' := by simpa using hx
  obtain ⟨e1, e2⟩ := hx
  have hH : H = Hx := by simpa using hH
  subst e1 e2 hH
  obtain ⟨e1, e2⟩ := h.uniq hO
  subst e1 e2
  exact ⟨H', hK, hO'⟩
theorem raw_post {p u v : Value} {H R F : Hl} {K : List Hl} {bs b2 : List Int} {lg : Bool} (h : OutAt H p bs lg) (h2 : RdW R u b2) (hp : oRawS.post [p, u] [H] [R] v K F) : ∃ H', K = [H'] ∧ OutAt H' p (bs ++ b2) lg := by
  obtain ⟨p', z', Hx, Rx, bs', lg', b2', H', hx, hH, hR, hO, hB, hK, hO'⟩ := hp
  have hx : p = p' ∧ u = z' := by simpa using hx
  obtain ⟨e1, e2⟩ := hx
  have hH : H = Hx := by simpa using hH
  have hR : R = Rx := by simpa using hR
  subst e1 e2 hH hR
  obtain ⟨e1, e2⟩ := h.uniq hO
  subst e1 e2
  have e := h2.uniq hB
  subst e
  exact ⟨H', hK, hO'⟩
theorem oTextS_ok : oTextS.OK Tryd.prog := by
  refine Spec.of_fn (Γ := oΓ) oΓ_ok ?_
  rintro xs Hs Rs hl1 hl2 ⟨p, u, H, R, bs, lg, b2, rfl, rfl, rfl, h, hRd, hlen, hl2'⟩
  obtain ⟨a, _, _, rfl, _⟩ := h.whole
  obtain ⟨x2, y2, c2, rfl, hy2, hR⟩ := id hRd
  refine ⟨oTextW, envI [(a : Int), 0, 0, 0, 0, 0, 0, 0, x2, y2, b2.length, c2] false [Hl.none, H, Hl.none, Hl.none, Hl.none, Hl.none, Hl.none, Hl.none, Hl.none, Hl.none, Hl.none, Hl.none, R], fun _ _ => True, fun _ _ => 0, ?_, ⟨?_, ?_, ?_, ?_⟩, (fun _ h => nomatch h), ?_⟩
  · show [Value.pointer (slP (a : Int) 0), Value.slice (slP x2 y2) ((b2.length : Int)).toNat ((c2 : Int)).toNat] = _
    rw [ptr0, Int.toNat_natCast, Int.toNat_natCast]
  · intro r hr ho; simp [oTextW] at hr
    rcases hr with rfl | rfl
    · exact ⟨H, by simp, Hl.le_refl _⟩
    · cases ho
  · intro r hr ho; simp [oTextW] at hr
    rcases hr with rfl | rfl
    · cases ho
    · exact ⟨R, by simp, Hl.le_refl _⟩
  · simp [oTextW, Res.own]
  · intro r hr; simp [oTextW] at hr; rcases hr with rfl | rfl <;> trivial
  · show Nd.holds _ _ _ oTextNd
    generalize hρ : envI [(a : Int), 0, 0, 0, 0, 0, 0, 0, x2, y2, b2.length, c2] false [Hl.none, H, Hl.none, Hl.none, Hl.none, Hl.none, Hl.none, Hl.none, Hl.none, Hl.none, Hl.none, Hl.none, R] = ρ
    have v0 : ρ.i 0 = a := by rw [← hρ]; rfl
    have v8 : ρ.i 8 = x2 := by rw [← hρ]; rfl
    have v9 : ρ.i 9 = y2 := by rw [← hρ]; rfl
    have v10 : ρ.i 10 = b2.length := by rw [← hρ]; rfl
    have v11 : ρ.i 11 = c2 := by rw [← hρ]; rfl
    have w1 : ρ.h 1 = H := by rw [← hρ]; rfl
    have w12 : ρ.h 12 = R := by rw [← hρ]; rfl
    clear hρ
    have out : ∀ (q : Env) (k : Nat) (vs : List Nat) (t : Mem) (r : List Int × Bool), outText bs lg b2 = r → OutAt (q.h k) (.pointer (some ⟨a, 0, none⟩)) r.1 r.2 → postOf oTextS [.pointer (some ⟨a, 0, none⟩), .slice (slP x2 y2) b2.length c2] [H] [R] q (.hp k vs [.var 0] [] :: t) (.tup []) := by
      intro q k vs t r hr ho _
      refine ⟨[[0]], [], rfl, rfl, ⟨⟨fun _ => 0, fun _ => false, fun _ => .empty, fun _ => .tuple #[], fun _ => Hl.none⟩, rfl, trivial⟩, _, _, H, R, bs, lg, b2, _, rfl, rfl, rfl, h, hRd, rfl, ?_⟩
      rw [hr]
      show OutAt (hls [q.h k]) _ _ _
      rw [hls_one]; exact ho
    have tn1 : Int.toNat 1 = 1 := rfl
    unfold oTextNd
    simp only [Nd.holds, X.pre, X.rel, X.n, Src.ok, Src.len, Src.vals, true_and, and_true, if_true, Nat.mul_one, Nat.add_zero, Nat.reduceAdd, List.length_cons, List.length_nil, bT_tt, bT_ff, bT_bvar, bT_not, bT_and, bT_or, bT_ite, bT_lt, bT_le, bT_eq, bT_beq, bT_seq, bT_hB, bT_his, bT_hby, bT_hism, bT_hks, iev_lit, iev_var, iev_add, iev_sub, iev_mul, iev_wrap, iev_ite, iev_hI, iev_hP, iev_hmlen, sev_ite, sev_slit, sev_sof, sev_svar, TV.ev, SV.ev, CV.ev, List.map_cons, List.map_nil, Res.hl, cpTV, Cp.sv, Ck.cv, cpSVs, Cp.len, Ck.len, newHs_zero, newHs_one, roots_ne, og0, og1, or0, or1, tn1]
    rw [v10, v0, w1, Int.toNat_natCast]
    obtain ⟨hw, hset⟩ := h.setLong
    refine ⟨by omega, fun hgt => ⟨by omega, ⟨by omega, by omega, hw⟩, fun q g h13 => ?_⟩, fun hle => ?_⟩
    · refine out q 13 _ _ (bs, true) (by unfold outText; rw [if_pos (by omega)]) ?_
      rw [h13]; exact hset
    · have hu : IntKind.u64.wrap ((b2.length : Nat) : Int) = b2.length := wu64 (by omega) (by omega)
      rw [hu, ptr0]
      refine ⟨⟨_, _, H, bs, lg, rfl, rfl, h, ⟨_, rfl, by omega, by omega⟩, by omega⟩, fun q g ⟨F1, hp, _, _⟩ => ?_⟩
      obtain ⟨H1, hK1, hO1⟩ := op_post h hp
      have hK1 : q.h 13 = H1 := by simpa using hK1
      rw [← hK1] at hO1
      have eN : numAct [Value.int .u64 ((b2.length : Nat) : Int)] bs = bs ++ numB b2.length := by
        unfold numAct
        show bs ++ numB (((b2.length : Nat) : Int)).toNat = _
        rw [Int.toNat_natCast]
      rw [eN] at hO1
      have hnb := num_bound (z := b2.length) (by omega)
      rw [g.i 0 (by omega), v0, g.i 8 (by omega), v8, g.i 9 (by omega), v9, g.i 10 (by omega), v10, g.i 11 (by omega), v11, g.h 12 (by omega), w12, ptr0, Int.toNat_natCast, Int.toNat_natCast]
      refine ⟨⟨_, _, _, R, _, lg, b2, rfl, rfl, rfl, hO1, hRd, by rw [List.length_append]; omega, by omega⟩, fun q2 g2 ⟨F2, hp2, _, _⟩ => ?_⟩
      obtain ⟨H2, hK2, hO2⟩ := raw_post hO1 hRd hp2
      have hK2 : q2.h 15 = H2 := by simpa using hK2
      refine out q2 15 _ _ (bs ++ textBytes b2, lg) (by unfold outText; rw [if_neg (by omega)]) ?_
      rw [hK2]
      unfold textBytes
      rw [← List.append_assoc]; exact hO2
end Go.Proofs.YtomdimlnggpgbaaDoor
