/- Layer 5: what is put together: Raw, Flag, Text, End, and the reference's Num, as contracts. Condition: at most 900000 bytes. -/
import Derived.Lib.Hide
import Derived.WalkSpells
import Derived.WalkLawsBesides
import Derived.Lib.BytesEntry
import Derived.Test.YtomdimlnggpgbaaDoorRc
set_option linter.unusedSimpArgs false
set_option linter.unusedVariables false
set_option linter.constructorNameAsVariable false
namespace Go.Proofs.YtomdimlnggpgbaaDoor
open Go Go.Sx Go.Pk
def oRawS : Sx.Spec where
  fn := 82
  own := [.arg 0]
  rd := [1]
  res := []
  pre := fun xs Hs Rs => ∃ p u H R bs lg b2, xs = [p, u] ∧ Hs = [H] ∧ Rs = [R] ∧ OutAt H p bs lg ∧ RdW R u b2 ∧ bs.length ≤ 900000 ∧ b2.length ≤ 90000
  post := fun xs Hs Rs v Hs' F => ∃ p u H R bs lg b2 H', xs = [p, u] ∧ Hs = [H] ∧ Rs = [R] ∧ OutAt H p bs lg ∧ RdW R u b2 ∧ Hs' = [H'] ∧ OutAt H' p (bs ++ b2) lg
def oRawNd : Nd := .and (.pre (.app 13 5 1 1 (.sl (.var 1) (.lit 0) (.var 2) (.var 3)) (.var 2) (.hp 7 [] [.var 1] []) (.seg 12 (.var 8) (.var 9) (.var 10)))) (.ext (.app 13 5 1 1 (.sl (.var 1) (.lit 0) (.var 2) (.var 3)) (.var 2) (.hp 7 [] [.var 1] []) (.seg 12 (.var 8) (.var 9) (.var 10))) (.post [.blk 0 [.sl (.var 13) (.lit 0) (.add (.var 2) (.var 10)) (.var 14), .bool (.bvar 6)] 124, .hp 13 [7] [.var 13, .var 1] [], .ro 12 [.var 8] false] (.tup [])))
def oRawW : Walk Tryd.prog [] oRawS.fn where
  Λ := noLoops
  args := [TP (.var 0) (.lit 0), .sv (.one (.sl (.var 8) (.var 9) (.var 10) (.var 11)))]
  mem := outMem ++ [.ro 12 [.var 8] false]
  nv := 13
  nd := oRawNd
  ok := by kernel_rfl
theorem oRawS_ok : oRawS.OK Tryd.prog := by
  refine Spec.of_fn (Γ := []) (fun _ h => by cases h) ?_
  rintro xs Hs Rs hl1 hl2 ⟨p, u, H, R, bs, lg, b2, rfl, rfl, rfl, ⟨a, x, c, F, rfl, h⟩, hRd, hlen, hl2'⟩
  obtain ⟨x2, y2, c2, rfl, hy2, hR⟩ := id hRd
  refine ⟨oRawW, outEnv a x c bs.length lg F 0 [x2, y2, b2.length, c2] R, fun _ _ => True, fun _ _ => 0, ?_, outEntry2 h 0 _ R _, (fun _ h => nomatch h), ?_⟩
  · show [Value.pointer (slP (a : Int) 0), Value.slice (slP x2 y2) ((b2.length : Int)).toNat ((c2 : Int)).toNat] = _
    rw [ptr0, Int.toNat_natCast, Int.toNat_natCast]
  · show Nd.holds _ _ _ oRawNd
    generalize hρ : outEnv a x c bs.length lg F 0 [x2, y2, b2.length, c2] R = ρ
    have v0 : ρ.i 0 = a := by rw [← hρ]; rfl
    have v1 : ρ.i 1 = x := by rw [← hρ]; rfl
    have v2 : ρ.i 2 = bs.length := by rw [← hρ]; rfl
    have v3 : ρ.i 3 = c := by rw [← hρ]; rfl
    have v8 : ρ.i 8 = x2 := by rw [← hρ]; rfl
    have v9 : ρ.i 9 = y2 := by rw [← hρ]; rfl
    have v10 : ρ.i 10 = b2.length := by rw [← hρ]; rfl
    have b6 : ρ.b 6 = lg := by rw [← hρ]; rfl
    have w7 : ρ.h 7 = F := by rw [← hρ]; rfl
    have w12 : ρ.h 12 = R := by rw [← hρ]; rfl
    clear hρ
    unfold oRawNd
    simp only [Nd.holds, X.pre, X.rel, X.n, Src.ok, Src.len, Src.vals, true_and, and_true, if_true, Nat.mul_one, Nat.add_zero, Nat.reduceAdd, List.length_cons, List.length_nil, bT_tt, bT_ff, bT_bvar, bT_not, bT_and, bT_or, bT_ite, bT_lt, bT_le, bT_eq, bT_beq, bT_seq, bT_hB, bT_his, bT_hby, bT_hism, bT_hks, iev_lit, iev_var, iev_add, iev_sub, iev_mul, iev_wrap, iev_ite, iev_hI, iev_hP, iev_hmlen, sev_ite, sev_slit, sev_sof, sev_svar, TV.ev, SV.ev, CV.ev, List.map_cons, List.map_nil, Res.hl]
    rw [v1, v2, v3, v8, v9, v10, w7, w12]
    obtain ⟨hok, hseg⟩ := seg_of (R := R) (x := x2) (y := y2) (l := (b2.length : Int)) rfl hy2 hR
    have hO : OwB F 5 (.slice (slP x 0) ((bs.length : Int)).toNat c.toNat) bs := h.own
    refine ⟨⟨⟨_, owB_pre hO rfl⟩, by omega, by simpa using hok, by rw [Int.toNat_natCast, Int.toNat_natCast]; unfold maxLen; omega, by rw [Int.toNat_natCast, Int.toNat_natCast]; omega⟩, fun q2 g2 ⟨a1, a2, a3, _⟩ hd => ?_⟩
    rw [hseg] at a3
    have hO2 := owB_app (bs2 := b2) (m := ((b2.length : Int)).toNat) hO rfl (Int.toNat_natCast _) a3
    refine ⟨[[0, 1]], [], rfl, rfl, ⟨⟨fun _ => 0, fun _ => false, fun _ => .empty, fun _ => .tuple #[], fun _ => Hl.none⟩, rfl, trivial⟩, _, _, H, R, bs, lg, b2, _, rfl, rfl, rfl, ⟨a, x, c, F, rfl, h⟩, hRd, rfl, outOut (by rw [g2.i 0 (by omega), v0]) a1 ?_ a2 (by rw [bev_bvar, g2.b 6 (by omega), b6]) hO2 hd⟩
    show q2.i 2 + q2.i 10 = ((bs ++ b2).length : Int)
    rw [g2.i 2 (by omega), g2.i 10 (by omega), v2, v10, List.length_append]; omega
def flagAct (l : List Value) (bs : List Int) : List Int := bs ++ [if valB l[0]? = true then 1 else 0]
def flagOk (l : List Value) (_ : List Int) : Prop := ∃ b : Bool, l = [.bool b]
def oFlagS : Sx.Spec := outOp 81 flagOk flagAct
def oFlagNd : Nd := .and (.imp (.bvar 5) (.ext (.alloc 8) (.and (.pre (.app 9 5 1 1 (.sl (.var 1) (.lit 0) (.var 2) (.var 3)) (.var 2) (.hp 7 [] [.var 1] []) (.cvs [.int .u8 (.lit 1)] 1))) (.ext (.app 9 5 1 1 (.sl (.var 1) (.lit 0) (.var 2) (.var 3)) (.var 2) (.hp 7 [] [.var 1] []) (.cvs [.int .u8 (.lit 1)] 1)) (.post [.blk 0 [.sl (.var 9) (.lit 0) (.add (.var 2) (.lit 1)) (.var 10), .bool (.bvar 6)] 124, .hp 9 [7] [.var 9, .var 1] [], .dead] (.tup [])))))) (.imp (.not (.bvar 5)) (.ext (.alloc 8) (.and (.pre (.app 9 5 1 1 (.sl (.var 1) (.lit 0) (.var 2) (.var 3)) (.var 2) (.hp 7 [] [.var 1] []) (.cvs [.int .u8 (.lit 0)] 1))) (.ext (.app 9 5 1 1 (.sl (.var 1) (.lit 0) (.var 2) (.var 3)) (.var 2) (.hp 7 [] [.var 1] []) (.cvs [.int .u8 (.lit 0)] 1)) (.post [.blk 0 [.sl (.var 9) (.lit 0) (.add (.var 2) (.lit 1)) (.var 10), .bool (.bvar 6)] 124, .hp 9 [7] [.var 9, .var 1] [], .dead] (.tup []))))))
def oFlagW : Walk Tryd.prog [] 81 where
  Λ := noLoops
  args := [TP (.var 0) (.lit 0), .sv (.one (.bool (.bvar 5)))]
  mem := outMem
  nv := 8
  nd := oFlagNd
  ok := by kernel_rfl
theorem outEntryB {H F : Hl} {a : Nat} {x c : Int} {bs : List Int} {lg : Bool} (h : OutIn H a x c F bs lg) (b5 : Bool) : Entry { outEnv a x c bs.length lg F 0 [] Hl.none with b := fun k => if k = 5 then b5 else lg } outMem [H] [] := by
  obtain ⟨h1, h2, h3, h4⟩ := outEntry h 0 [] Hl.none
  refine ⟨fun r hr ho => ?_, fun r hr ho => ?_, ?_, fun r hr => ?_⟩
  · obtain ⟨K, hK, hle⟩ := h1 r hr ho
    refine ⟨K, hK, ?_⟩
    simp only [outMem, List.mem_cons, List.mem_nil_iff, or_false] at hr
    rcases hr with rfl | rfl <;> exact hle
  · simp only [outMem, List.mem_cons, List.mem_nil_iff, or_false] at hr
    rcases hr with rfl | rfl <;> cases ho
  · exact h3.imp (fun {r s} hrs => hrs) |> fun _ => by
      unfold outMem at h3 ⊢
      refine List.Pairwise.cons (fun r hr _ _ => ?_) (List.Pairwise.cons (fun r hr => by cases hr) List.Pairwise.nil)
      rw [List.mem_singleton] at hr
      subst hr
      exact (List.pairwise_cons.1 h3).1 _ (List.mem_singleton.2 rfl) rfl rfl
  · simp only [outMem, List.mem_cons, List.mem_nil_iff, or_false] at hr
    rcases hr with rfl | rfl
    · show (0 : Int) ≤ (a : Int); omega
    · trivial
theorem oFlagS_ok : oFlagS.OK Tryd.prog := by
  refine Spec.of_fn (Γ := []) (fun _ h => by cases h) ?_
  rintro xs Hs Rs hl1 hl2 ⟨p, zv, H, bs, lg, rfl, rfl, ⟨a, x, c, F, rfl, h⟩, ⟨b, hb⟩, hlen⟩
  have hb : zv = .bool b := by simpa using hb
  subst hb
  have e1 : Rs = [] := List.length_eq_zero_iff.1 hl2
  subst e1
  refine ⟨oFlagW, { outEnv a x c bs.length lg F 0 [] Hl.none with b := fun k => if k = 5 then b else lg }, fun _ _ => True, fun _ _ => 0, ?_, outEntryB h b, (fun _ h => nomatch h), ?_⟩
  · show [Value.pointer (slP (a : Int) 0), Value.bool b] = _
    rw [ptr0]
  · show Nd.holds _ _ _ oFlagNd
    generalize hρ : ({ outEnv a x c bs.length lg F 0 [] Hl.none with b := fun k => if k = 5 then b else lg } : Env) = ρ
    have v0 : ρ.i 0 = a := by rw [← hρ]; rfl
    have v1 : ρ.i 1 = x := by rw [← hρ]; rfl
    have v2 : ρ.i 2 = bs.length := by rw [← hρ]; rfl
    have v3 : ρ.i 3 = c := by rw [← hρ]; rfl
    have b5 : ρ.b 5 = b := by rw [← hρ]; rfl
    have b6 : ρ.b 6 = lg := by rw [← hρ]; rfl
    have w7 : ρ.h 7 = F := by rw [← hρ]; rfl
    clear hρ
    have hO : OwB F 5 (.slice (slP x 0) ((bs.length : Int)).toNat c.toNat) bs := h.own
    have fin : ∀ (q2 : Env) (z : Int) (t : Mem), Agree 8 ρ q2 → -1 ≤ q2.i 9 → 0 ≤ q2.i 10 → (if b = true then (1 : Int) else 0) = z → (∀ xs, OwnsH F 5 1 (.slice (slP x 0) ((bs.length : Int)).toNat c.toNat) ((bs.length : Int)).toNat xs → OwnsH (q2.h 9) 5 1 (.slice (slP (q2.i 9) 0) (((bs.length : Int)).toNat + 1) (q2.i 10).toNat) (((bs.length : Int)).toNat + 1) (xs ++ bys [z])) →
        postOf oFlagS [.pointer (some ⟨a, 0, none⟩), .bool b] [H] [] q2 (.blk 0 [.sl (.var 9) (.lit 0) (.add (.var 2) (.lit 1)) (.var 10), .bool (.bvar 6)] 124 :: .hp 9 [7] [.var 9, .var 1] [] :: t) (.tup []) := by
      intro q2 z t G a1 a2 hz a3 hd
      have hO2 := owB_app (bs2 := [z]) (m := 1) hO rfl rfl a3
      refine ⟨[[0, 1]], [], rfl, rfl, ⟨⟨fun _ => 0, fun _ => false, fun _ => .empty, fun _ => .tuple #[], fun _ => Hl.none⟩, rfl, trivial⟩, _, _, H, bs, lg, _, rfl, rfl, ⟨a, x, c, F, rfl, h⟩, rfl, ?_⟩
      have ea : flagAct [Value.bool b] bs = bs ++ [z] := by rw [← hz]; rfl
      rw [ea]
      refine outOut (by rw [G.i 0 (by omega), v0]) a1 ?_ a2 (by rw [bev_bvar, G.b 6 (by omega), b6]) hO2 hd
      show q2.i 2 + 1 = ((bs ++ [z]).length : Int)
      rw [G.i 2 (by omega), v2, List.length_append, List.length_singleton]; omega
    unfold oFlagNd
    simp only [Nd.holds, X.pre, X.rel, X.n, Src.ok, Src.len, Src.vals, true_and, and_true, if_true, Nat.mul_one, Nat.add_zero, Nat.reduceAdd, List.length_cons, List.length_nil, bT_tt, bT_ff, bT_bvar, bT_not, bT_and, bT_or, bT_ite, bT_lt, bT_le, bT_eq, bT_beq, bT_seq, bT_hB, bT_his, bT_hby, bT_hism, bT_hks, iev_lit, iev_var, iev_add, iev_sub, iev_mul, iev_wrap, iev_ite, iev_hI, iev_hP, iev_hmlen, sev_ite, sev_slit, sev_sof, sev_svar, TV.ev, SV.ev, CV.ev, List.map_cons, List.map_nil, Res.hl]
    rw [b5]
    refine ⟨fun hb q1 g1 _ => ?_, fun hb q1 g1 _ => ?_⟩
    all_goals
      rw [g1.i 1 (by omega), g1.i 2 (by omega), g1.i 3 (by omega), g1.h 7 (by omega), v1, v2, v3, w7]
      refine ⟨⟨⟨_, owB_pre hO rfl⟩, by omega, by rw [Int.toNat_natCast]; unfold maxLen; omega, by rw [Int.toNat_natCast]; omega⟩, fun q2 g2 ⟨a1, a2, a3, _⟩ => ?_⟩
    · exact fin q2 1 _ (g1.trans (g2.mono (by omega))) a1 a2 (if_pos hb) a3
    · exact fin q2 0 _ (g1.trans (g2.mono (by omega))) a1 a2 (if_neg hb) a3
def textBytes (b : List Int) : List Int := numB b.length ++ b
def outText (bs : List Int) (lg : Bool) (b2 : List Int) : List Int × Bool := if 4096 < b2.length then (bs, true) else (bs ++ textBytes b2, lg)
def oTextS : Sx.Spec where
  fn := 95
  own := [.arg 0]
  rd := [1]
  res := []
  pre := fun xs Hs Rs => ∃ p u H R bs lg b2, xs = [p, u] ∧ Hs = [H] ∧ Rs = [R] ∧ OutAt H p bs lg ∧ RdW R u b2 ∧ bs.length ≤ 800000 ∧ b2.length ≤ 1000000
  post := fun xs Hs Rs v Hs' F => ∃ p u H R bs lg b2 H', xs = [p, u] ∧ Hs = [H] ∧ Rs = [R] ∧ OutAt H p bs lg ∧ RdW R u b2 ∧ Hs' = [H'] ∧ OutAt H' p (outText bs lg b2).1 (outText bs lg b2).2
def oTextNd : Nd := .and (.e (.le (.lit 0) (.var 10))) (.and (.imp (.lt (.lit 4096) (.var 10)) (.and (.e (.le (.lit 0) (.var 0))) (.and (.pre (.put 13 1 (.var 0) (.lit 1) [.bool .tt])) (.ext (.put 13 1 (.var 0) (.lit 1) [.bool .tt]) (.post [.hp 13 [1] [.var 0] [], .ro 12 [.var 8] false] (.tup [])))))) (.imp (.not (.lt (.lit 4096) (.var 10))) (.and (.pre (.call 0 13 [.sv (.one (.hptr (.var 0) (.lit 0))), .sv (.one (.int .u64 (.wrap .u64 (.var 10))))] [.hp 1 [] [.var 0] []] [])) (.ext (.call 0 13 [.sv (.one (.hptr (.var 0) (.lit 0))), .sv (.one (.int .u64 (.wrap .u64 (.var 10))))] [.hp 1 [] [.var 0] []] []) (.and (.pre (.call 1 15 [.sv (.one (.hptr (.var 0) (.lit 0))), .sv (.one (.sl (.var 8) (.var 9) (.var 10) (.var 11)))] [.hp 13 [1] [.var 0] []] [.ro 12 [.var 8] false])) (.ext (.call 1 15 [.sv (.one (.hptr (.var 0) (.lit 0))), .sv (.one (.sl (.var 8) (.var 9) (.var 10) (.var 11)))] [.hp 13 [1] [.var 0] []] [.ro 12 [.var 8] false]) (.post [.hp 15 [13, 1] [.var 0] [], .ro 12 [.var 8] false] (.tup []))))))))
def oΓ : List Sx.Spec := [oNumS, oRawS, cloneBS]
theorem oΓ_ok : ∀ t ∈ oΓ, t.OK Tryd.prog := fun t ht => by
  simp only [oΓ, List.mem_cons, List.mem_nil_iff, or_false] at ht
  rcases ht with rfl | rfl | rfl
  · exact oNumS_ok
  · exact oRawS_ok
  · exact cloneBS_ok
theorem og0 : oΓ[0]? = some oNumS := rfl
theorem og1 : oΓ[1]? = some oRawS := rfl
theorem og2 : oΓ[2]? = some cloneBS := rfl
theorem or0 : oNumS.res = [] := rfl
theorem or1 : oRawS.res = [] := rfl
def oTextW : Walk Tryd.prog oΓ oTextS.fn where
  Λ := noLoops
  args := [TP (.var 0) (.lit 0), .sv (.one (.sl (.var 8) (.var 9) (.var 10) (.var 11)))]
  mem := [.hp 1 [] [.var 0] [], .ro 12 [.var 8] false]
  nv := 13
  nd := oTextNd
  ok := by kernel_rfl
theorem OutAt.setLong {H : Hl} {a : Nat} {bs : List Int} {lg : Bool} (h : OutAt H (.pointer (some ⟨a, 0, none⟩)) bs lg) : H.wr a 1 1 = true ∧ OutAt (H.put a 1 [.bool true]) (.pointer (some ⟨a, 0, none⟩)) bs true := by
  obtain ⟨a', x, c, F, e, h⟩ := h
  simp only [Value.pointer.injEq, Option.some.injEq, Addr.mk.injEq, and_true] at e
  subst e
  obtain ⟨l1, _⟩ := h.le
  have e := l1 a _ (Hl.one_self _ _)
  refine ⟨by unfold Hl.wr; rw [e]; rfl, a, x, c, F, rfl, h.rx, h.rc, h.own, h.na, ?_⟩
  rw [h.hl]
  funext k
  unfold Hl.put
  by_cases hk : k = a
  · subst hk
    rw [if_pos rfl]
    have e2 : hls [outS k x c bs.length lg, F] k = some (.cells #[svb x bs.length c, .bool lg] 124 (0, 0)) := by rw [← h.hl]; exact e
    have e3 : hls [outS k x c bs.length true, F] k = some (.cells #[svb x bs.length c, .bool true] 124 (0, 0)) := Hl.un_at_left (Hl.one_self _ _)
    rw [e2]
    exact e3.symm
  · rw [if_neg hk]
    have n1 : ∀ g : Bool, ¬ (outS a x c bs.length g).mem k := fun g hm => hk (Hl.one_mem.1 hm)
    show ((outS a x c bs.length lg).un _) k = ((outS a x c bs.length true).un _) k
    rw [Hl.un_at_right (n1 _), Hl.un_at_right (n1 _)]
theorem op_post {f : FuncId} {ok : List Value → List Int → Prop} {act : List Value → List Int → List Int} {p z v : Value} {H F : Hl} {K Rs : List Hl} {bs : List Int} {lg : Bool} (h : OutAt H p bs lg) (hp : (outOp f ok act).post [p, z] [H] Rs v K F) : ∃ H', K = [H'] ∧ OutAt H' p (act [z] bs) lg := by
  obtain ⟨p', z', Hx, bs', lg', H', hx, hH, hO, hK, hO'⟩ := hp
  have hx : p = p' ∧ z = z' := by simpa using hx
  obtain ⟨e1, e2⟩ := hx
  have hH : H = Hx := by simpa using hH
  subst e1 e2 hH
  obtain ⟨e1, e2⟩ := h.uniq hO
  subst e1 e2
  exact ⟨H', hK, hO'⟩
theorem raw_post {p u v : Value} {H R F : Hl} {K : List Hl} {bs b2 : List Int} {lg : Bool} (h : OutAt H p bs lg) (h2 : RdW R u b2) (hp : oRawS.post [p, u] [H] [R] v K F) : ∃ H', K = [H'] ∧ OutAt H' p (bs ++ b2) lg := by
  obtain ⟨p', z', Hx, Rx, bs', lg', b2', H', hx, hH, hR, hO, hB, hK, hO'⟩ := hp
  have hx : p = p' ∧ u = z' := by simpa using hx
  obtain ⟨e1, e2⟩ := hx
  have hH : H = Hx := by simpa using hH
  have hR : R = Rx := by simpa using hR
  subst e1 e2 hH hR
  obtain ⟨e1, e2⟩ := h.uniq hO
  subst e1 e2
  have e := h2.uniq hB
  subst e
  exact ⟨H', hK, hO'⟩
theorem oTextS_ok : oTextS.OK Tryd.prog := by
  refine Spec.of_fn (Γ := oΓ) oΓ_ok ?_
  rintro xs Hs Rs hl1 hl2 ⟨p, u, H, R, bs, lg, b2, rfl, rfl, rfl, h, hRd, hlen, hl2'⟩
  obtain ⟨a, _, _, rfl, _⟩ := h.whole
  obtain ⟨x2, y2, c2, rfl, hy2, hR⟩ := id hRd
  refine ⟨oTextW, envI [(a : Int), 0, 0, 0, 0, 0, 0, 0, x2, y2, b2.length, c2] false [Hl.none, H, Hl.none, Hl.none, Hl.none, Hl.none, Hl.none, Hl.none, Hl.none, Hl.none, Hl.none, Hl.none, R], fun _ _ => True, fun _ _ => 0, ?_, ⟨?_, ?_, ?_, ?_⟩, (fun _ h => nomatch h), ?_⟩
  · show [Value.pointer (slP (a : Int) 0), Value.slice (slP x2 y2) ((b2.length : Int)).toNat ((c2 : Int)).toNat] = _
    rw [ptr0, Int.toNat_natCast, Int.toNat_natCast]
  · intro r hr ho; simp [oTextW] at hr
    rcases hr with rfl | rfl
    · exact ⟨H, by simp, Hl.le_refl _⟩
    · cases ho
  · intro r hr ho; simp [oTextW] at hr
    rcases hr with rfl | rfl
    · cases ho
    · exact ⟨R, by simp, Hl.le_refl _⟩
  · simp [oTextW, Res.own]
  · intro r hr; simp [oTextW] at hr; rcases hr with rfl | rfl <;> trivial
  · show Nd.holds _ _ _ oTextNd
    generalize hρ : envI [(a : Int), 0, 0, 0, 0, 0, 0, 0, x2, y2, b2.length, c2] false [Hl.none, H, Hl.none, Hl.none, Hl.none, Hl.none, Hl.none, Hl.none, Hl.none, Hl.none, Hl.none, Hl.none, R] = ρ
    have v0 : ρ.i 0 = a := by rw [← hρ]; rfl
    have v8 : ρ.i 8 = x2 := by rw [← hρ]; rfl
    have v9 : ρ.i 9 = y2 := by rw [← hρ]; rfl
    have v10 : ρ.i 10 = b2.length := by rw [← hρ]; rfl
    have v11 : ρ.i 11 = c2 := by rw [← hρ]; rfl
    have w1 : ρ.h 1 = H := by rw [← hρ]; rfl
    have w12 : ρ.h 12 = R := by rw [← hρ]; rfl
    clear hρ
    have out : ∀ (q : Env) (k : Nat) (vs : List Nat) (t : Mem) (r : List Int × Bool), outText bs lg b2 = r → OutAt (q.h k) (.pointer (some ⟨a, 0, none⟩)) r.1 r.2 → postOf oTextS [.pointer (some ⟨a, 0, none⟩), .slice (slP x2 y2) b2.length c2] [H] [R] q (.hp k vs [.var 0] [] :: t) (.tup []) := by
      intro q k vs t r hr ho _
      refine ⟨[[0]], [], rfl, rfl, ⟨⟨fun _ => 0, fun _ => false, fun _ => .empty, fun _ => .tuple #[], fun _ => Hl.none⟩, rfl, trivial⟩, _, _, H, R, bs, lg, b2, _, rfl, rfl, rfl, h, hRd, rfl, ?_⟩
      rw [hr]
      show OutAt (hls [q.h k]) _ _ _
      rw [hls_one]; exact ho
    have tn1 : Int.toNat 1 = 1 := rfl
    unfold oTextNd
    simp only [Nd.holds, X.pre, X.rel, X.n, Src.ok, Src.len, Src.vals, true_and, and_true, if_true, Nat.mul_one, Nat.add_zero, Nat.reduceAdd, List.length_cons, List.length_nil, bT_tt, bT_ff, bT_bvar, bT_not, bT_and, bT_or, bT_ite, bT_lt, bT_le, bT_eq, bT_beq, bT_seq, bT_hB, bT_his, bT_hby, bT_hism, bT_hks, iev_lit, iev_var, iev_add, iev_sub, iev_mul, iev_wrap, iev_ite, iev_hI, iev_hP, iev_hmlen, sev_ite, sev_slit, sev_sof, sev_svar, TV.ev, SV.ev, CV.ev, List.map_cons, List.map_nil, Res.hl, cpTV, Cp.sv, Ck.cv, cpSVs, Cp.len, Ck.len, newHs_zero, newHs_one, roots_ne, og0, og1, or0, or1, tn1]
    rw [v10, v0, w1, Int.toNat_natCast]
    obtain ⟨hw, hset⟩ := h.setLong
    refine ⟨by omega, fun hgt => ⟨by omega, ⟨by omega, by omega, hw⟩, fun q g h13 => ?_⟩, fun hle => ?_⟩
    · refine out q 13 _ _ (bs, true) (by unfold outText; rw [if_pos (by omega)]) ?_
      rw [h13]; exact hset
    · have hu : IntKind.u64.wrap ((b2.length : Nat) : Int) = b2.length := wu64 (by omega) (by omega)
      rw [hu, ptr0]
      refine ⟨⟨_, _, H, bs, lg, rfl, rfl, h, ⟨_, rfl, by omega, by omega⟩, by omega⟩, fun q g ⟨F1, hp, _, _⟩ => ?_⟩
      obtain ⟨H1, hK1, hO1⟩ := op_post h hp
      have hK1 : q.h 13 = H1 := by simpa using hK1
      rw [← hK1] at hO1
      have eN : numAct [Value.int .u64 ((b2.length : Nat) : Int)] bs = bs ++ numB b2.length := by
        unfold numAct
        show bs ++ numB (((b2.length : Nat) : Int)).toNat = _
        rw [Int.toNat_natCast]
      rw [eN] at hO1
      have hnb := num_bound (z := b2.length) (by omega)
      rw [g.i 0 (by omega), v0, g.i 8 (by omega), v8, g.i 9 (by omega), v9, g.i 10 (by omega), v10, g.i 11 (by omega), v11, g.h 12 (by omega), w12, ptr0, Int.toNat_natCast, Int.toNat_natCast]
      refine ⟨⟨_, _, _, R, _, lg, b2, rfl, rfl, rfl, hO1, hRd, by rw [List.length_append]; omega, by omega⟩, fun q2 g2 ⟨F2, hp2, _, _⟩ => ?_⟩
      obtain ⟨H2, hK2, hO2⟩ := raw_post hO1 hRd hp2
      have hK2 : q2.h 15 = H2 := by simpa using hK2
      refine out q2 15 _ _ (bs ++ textBytes b2, lg) (by unfold outText; rw [if_neg (by omega)]) ?_
      rw [hK2]
      unfold textBytes
      rw [← List.append_assoc]; exact hO2
end Go.Proofs.YtomdimlnggpgbaaDoor
namespace Go.Proofs.YtomdimlnggpgbaaDoor
open Go Go.Sx Go.Pk
def endR (bs : List Int) (lg : Bool) : List Int × Int := if lg = true ∨ 16384 < bs.length then ([], 3) else (bs, 0)
def oEndS : Sx.Spec where
  fn := 63
  own := []
  rd := [0]
  res := [.one .sl, .one (.int .i64)]
  pre := fun xs Hs Rs => ∃ p R bs lg, xs = [p] ∧ Rs = [R] ∧ OutAt R p bs lg ∧ bs.length ≤ 1000000
  post := fun xs Hs Rs v Hs' F => ∃ p R bs lg u, xs = [p] ∧ Rs = [R] ∧ OutAt R p bs lg ∧ v = .tuple #[u, .int .i64 (endR bs lg).2] ∧ OwB F 5 u (endR bs lg).1
def oEndNd : Nd := .and (.e (.le (.lit 0) (.var 0))) (.and (.e (.his 2 (.var 0) (.lit 1) 0 .bool)) (.and (.imp (.not (.hB 2 (.var 0) (.lit 1) 0)) (.and (.e (.his 2 (.var 0) (.lit 0) 0 .slice)) (.and (.e (.le (.lit 0) (.hP 2 (.var 0) (.lit 0) 0 2))) (.and (.imp (.lt (.lit 16384) (.hP 2 (.var 0) (.lit 0) 0 2)) (.post [.ro 1 [.hP 2 (.var 0) (.lit 0) 0 0] false, .ro 2 [.var 0] false] (.tup [.one (.sl (.lit (-1)) (.lit 0) (.lit 0) (.lit 0)), .one (.int .i64 (.lit 3))]))) (.imp (.not (.lt (.lit 16384) (.hP 2 (.var 0) (.lit 0) 0 2))) (.and (.pre (.call 2 3 [.sv (.one (.sl (.hP 2 (.var 0) (.lit 0) 0 0) (.hP 2 (.var 0) (.lit 0) 0 1) (.hP 2 (.var 0) (.lit 0) 0 2) (.hP 2 (.var 0) (.lit 0) 0 3)))] [] [.ro 1 [.hP 2 (.var 0) (.lit 0) 0 0] false])) (.ext (.call 2 3 [.sv (.one (.sl (.hP 2 (.var 0) (.lit 0) 0 0) (.hP 2 (.var 0) (.lit 0) 0 1) (.hP 2 (.var 0) (.lit 0) 0 2) (.hP 2 (.var 0) (.lit 0) 0 3)))] [] [.ro 1 [.hP 2 (.var 0) (.lit 0) 0 0] false]) (.post [.ro 1 [.hP 2 (.var 0) (.lit 0) 0 0] false, .ro 2 [.var 0] false, .hp 3 [] [.var 3] []] (.tup [.one (.sl (.var 3) (.var 4) (.var 5) (.var 6)), .one (.int .i64 (.lit 0))]))))))))) (.imp (.hB 2 (.var 0) (.lit 1) 0) (.post [.ro 1 [.hP 2 (.var 0) (.lit 0) 0 0] false, .ro 2 [.var 0] false] (.tup [.one (.sl (.lit (-1)) (.lit 0) (.lit 0) (.lit 0)), .one (.int .i64 (.lit 3))])))))
def oEndW : Walk Tryd.prog oΓ oEndS.fn where
  Λ := noLoops
  args := [TP (.var 0) (.lit 0)]
  mem := [.ro 1 [.hP 2 (.var 0) (.lit 0) 0 0] false, .ro 2 [.var 0] false]
  nv := 3
  nd := oEndNd
  ok := by kernel_rfl
theorem or2 : cloneBS.res = [.one .sl] := rfl
theorem sl3 {x y : Int} (hx : -1 ≤ x) (n c : Nat) : valP (some (.slice (slP x y) n c)) 3 = c := by
  rcases Int.lt_or_le x 0 with h | h
  · obtain rfl : x = -1 := by omega
    rfl
  · rw [slP_pos h]; rfl
theorem sl1z {x : Int} (hx : -1 ≤ x) (n c : Nat) : valP (some (.slice (slP x 0) n c)) 1 = 0 := by
  rcases Int.lt_or_le x 0 with h | h
  · obtain rfl : x = -1 := by omega
    rfl
  · rw [slP_pos h]; rfl
theorem oEndS_ok : oEndS.OK Tryd.prog := by
  refine Spec.of_fn (Γ := oΓ) oΓ_ok ?_
  rintro xs Hs Rs hl1 hl2 ⟨p, R, bs, lg, rfl, rfl, h, hlen⟩
  have e0 : Hs = [] := List.length_eq_zero_iff.1 hl1
  subst e0
  obtain ⟨a, x, c, rfl, hx, hc, hc0, hc1, hR⟩ := h.whole
  unfold svb at hc0 hR
  rw [Int.toNat_natCast] at hc0 hR
  refine ⟨oEndW, envI [(a : Int)] false [Hl.none, R, R], fun _ _ => True, fun _ _ => 0, ?_, ⟨?_, ?_, ?_, ?_⟩, (fun _ h => nomatch h), ?_⟩
  · show [Value.pointer (slP (a : Int) 0)] = _
    rw [ptr0]
  · intro r hr ho; simp [oEndW] at hr; rcases hr with rfl | rfl <;> cases ho
  · intro r hr ho; simp [oEndW] at hr
    rcases hr with rfl | rfl <;> exact ⟨R, by simp, Hl.le_refl _⟩
  · simp [oEndW, Res.own]
  · intro r hr; simp [oEndW] at hr; rcases hr with rfl | rfl <;> trivial
  · show Nd.holds _ _ _ oEndNd
    generalize hρ : envI [(a : Int)] false [Hl.none, R, R] = ρ
    have v0 : ρ.i 0 = a := by rw [← hρ]; rfl
    have w1 : ρ.h 1 = R := by rw [← hρ]; rfl
    have w2 : ρ.h 2 = R := by rw [← hρ]; rfl
    clear hρ
    have fail : ∀ (mem : Mem), lg = true ∨ 16384 < bs.length → postOf oEndS [.pointer (some ⟨a, 0, none⟩)] [] [R] ρ mem (.tup [.one (.sl (.lit (-1)) (.lit 0) (.lit 0) (.lit 0)), .one (.int .i64 (.lit 3))]) := by
      intro mem hf _
      have hs : endR bs lg = ([], 3) := by unfold endR; rw [if_pos hf]
      refine ⟨[], [], rfl, rfl, ⟨⟨fun k => if k = 0 then -1 else if k = 4 then 3 else 0, fun _ => false, fun _ => .empty, fun _ => .tuple #[], fun _ => Hl.none⟩, rfl, ⟨Int.le_refl _, Int.le_refl _, Int.le_refl _, Int.le_refl _⟩, trivial, trivial⟩, _, R, bs, lg, .slice none 0 0, rfl, rfl, h, ?_, ?_⟩
      · rw [hs]; rfl
      · rw [hs]; exact ownB_nil _ _
    have tn0 : Int.toNat 0 = 0 := rfl
    have tn1 : Int.toNat 1 = 1 := rfl
    unfold oEndNd
    simp only [Nd.holds, X.pre, X.rel, X.n, Src.ok, Src.len, Src.vals, true_and, and_true, if_true, Nat.mul_one, Nat.add_zero, Nat.reduceAdd, List.length_cons, List.length_nil, bT_tt, bT_ff, bT_bvar, bT_not, bT_and, bT_or, bT_ite, bT_lt, bT_le, bT_eq, bT_beq, bT_seq, bT_hB, bT_his, bT_hby, bT_hism, bT_hks, iev_lit, iev_var, iev_add, iev_sub, iev_mul, iev_wrap, iev_ite, iev_hI, iev_hP, iev_hmlen, sev_ite, sev_slit, sev_sof, sev_svar, TV.ev, SV.ev, CV.ev, List.map_cons, List.map_nil, Res.hl, cpTV, Cp.sv, Ck.cv, cpSVs, Cp.len, Ck.len, newHs_zero, newHs_one, roots_ne, og2, or2, ic1, tn0, tn1]
    rw [v0, w2, w1, Int.toNat_natCast, hc0, hc1, sl2 hx, sl0 hx, sl1z hx, sl3 hx]
    refine ⟨by omega, rfl, fun hb => ⟨rfl, by omega, fun hlt => fail _ (Or.inr (by omega)), fun hge => ?_⟩, fun hb => fail _ (Or.inl hb)⟩
    have hb : lg = false := Bool.eq_false_iff.2 hb
    rw [Int.toNat_natCast, Int.toNat_natCast]
    have hW := hR.w
    refine ⟨⟨_, bs, R, rfl, rfl, hW, hlen⟩, fun q g ⟨F1, hp, hF, hnm⟩ _ => ?_⟩
    have hO := clone_post hW hp
    rw [← hF trivial] at hO
    have hs : endR bs lg = (bs, 0) := by
      unfold endR
      have : ¬ (lg = true ∨ 16384 < bs.length) := by
        rintro (e | e)
        · rw [hb] at e; cases e
        · omega
      rw [if_neg this]
    refine ⟨[], [2], rfl, rfl, ⟨⟨fun k => if k = 4 then 0 else q.i (3 + k), fun _ => false, fun _ => .empty, fun _ => .tuple #[], fun _ => Hl.none⟩, rfl, hnm.1, trivial, trivial⟩, _, R, bs, lg, _, rfl, rfl, h, by rw [hs]; rfl, ?_⟩
    rw [hs]
    show OwB (hls [q.h 3]) _ _ _
    rw [hls_one]; exact hO
def rnumS : Sx.Spec where
  fn := 57
  own := []
  rd := []
  res := [.one .sl]
  pre := fun xs Hs Rs => ∃ z : Int, xs = [.int .u64 z] ∧ 0 ≤ z ∧ z < 18446744073709551616
  post := fun xs Hs Rs v Hs' F => ∃ z : Int, xs = [.int .u64 z] ∧ OwB F 5 v (numB z.toNat)
def rnumNd : Nd := .and (.inv 0 [⟨24, 0, .int .i64 (.var 0)⟩, ⟨20, 0, .int .i64 (.lit (-1))⟩, ⟨22, 0, .int .i64 (.lit 0)⟩, ⟨23, 0, .int .i64 (.lit 0)⟩] [(25, none)]) (.havoc 0 0 1 (.and (.imp (.lt (.lit 0) (.wrap .u64 (.quo (.var 24) (.lit 128)))) (.ext (.alloc 30) (.and (.pre (.app 31 5 1 1 (.sl (.var 20) (.lit 0) (.var 22) (.var 23)) (.var 22) (.hp 25 [] [.var 20] []) (.cvs [.int .u8 (.wrap .u8 (.wrap .u64 (.add (.rem (.var 24) (.lit 128)) (.lit 128))))] 1))) (.ext (.app 31 5 1 1 (.sl (.var 20) (.lit 0) (.var 22) (.var 23)) (.var 22) (.hp 25 [] [.var 20] []) (.cvs [.int .u8 (.wrap .u8 (.wrap .u64 (.add (.rem (.var 24) (.lit 128)) (.lit 128))))] 1)) (.back 0 0 [⟨24, 0, .int .i64 (.wrap .u64 (.quo (.var 24) (.lit 128)))⟩, ⟨20, 0, .int .i64 (.var 31)⟩, ⟨22, 0, .int .i64 (.add (.var 22) (.lit 1))⟩, ⟨23, 0, .int .i64 (.var 32)⟩] [(25, some 31)]))))) (.imp (.not (.lt (.lit 0) (.wrap .u64 (.quo (.var 24) (.lit 128))))) (.ext (.alloc 30) (.and (.pre (.app 31 5 1 1 (.sl (.var 20) (.lit 0) (.var 22) (.var 23)) (.var 22) (.hp 25 [] [.var 20] []) (.cvs [.int .u8 (.wrap .u8 (.var 24))] 1))) (.ext (.app 31 5 1 1 (.sl (.var 20) (.lit 0) (.var 22) (.var 23)) (.var 22) (.hp 25 [] [.var 20] []) (.cvs [.int .u8 (.wrap .u8 (.var 24))] 1)) (.post [.hp 31 [25] [.var 31, .var 20] [], .dead] (.sv (.one (.sl (.var 31) (.lit 0) (.add (.var 22) (.lit 1)) (.var 32)))))))))))
def rnumW : Walk Tryd.prog [] rnumS.fn where
  Λ := fun p => if lp0 p then some ⟨0, [(3, .sv (.one (.sl (.var 20) (.lit 0) (.var 22) (.var 23)))), (0, TI .u64 (.var 24))], [(0, .hp 25 [] [.var 20] [])], 30⟩ else none
  args := [TI .u64 (.var 0)]
  mem := []
  nv := 1
  nd := rnumNd
  ok := by kernel_rfl
theorem quo128 (y : Nat) (h : y < 18446744073709551616) : IntKind.u64.wrap ((y : Int).tdiv 128) = ((y / 128 : Nat) : Int) := by
  rw [Int.tdiv_eq_ediv_of_nonneg (by omega), wu64 (by omega) (by omega)]; omega
theorem rem128 (y : Nat) : IntKind.u8.wrap (IntKind.u64.wrap ((y : Int).tmod 128 + 128)) = ((y % 128 + 128 : Nat) : Int) := by
  rw [Int.tmod_eq_emod_of_nonneg (by omega), wu64 (by omega) (by omega), wu8]; omega
def rnumInv (all : List Int) (k : Nat) (q : Env) : Prop := oNumInv all 10 k q ∧ q.i 24 < 18446744073709551616
theorem rnumS_ok : rnumS.OK Tryd.prog := by
  refine Spec.of_fn (Γ := []) (fun _ h => by cases h) ?_
  rintro xs Hs Rs hl1 hl2 ⟨z, rfl, hz0, hz1⟩
  have e0 : Hs = [] := List.length_eq_zero_iff.1 hl1
  have e1 : Rs = [] := List.length_eq_zero_iff.1 hl2
  subst e0 e1
  have hnb := num_bound (z := z.toNat) (by omega)
  refine ⟨rnumW, envI [z] false [], rnumInv (numB z.toNat), fun _ q => (q.i 24).toNat, rfl, ⟨fun r hr => (by cases hr), fun r hr => (by cases hr), List.Pairwise.nil, fun r hr => (by cases hr)⟩, (fun _ h => nomatch h), ?_⟩
  show Nd.holds _ _ _ rnumNd
  generalize hρ : envI [z] false [] = ρ
  have v0 : ρ.i 0 = z := by rw [← hρ]; rfl
  clear hρ
  unfold rnumNd
  simp only [Nd.holds, X.pre, X.rel, X.n, Src.ok, Src.len, Src.vals, true_and, and_true, if_true, Nat.mul_one, Nat.add_zero, Nat.reduceAdd, List.length_cons, List.length_nil, bT_tt, bT_ff, bT_bvar, bT_not, bT_and, bT_or, bT_ite, bT_lt, bT_le, bT_eq, bT_beq, bT_seq, bT_hB, bT_his, bT_hby, bT_hism, bT_hks, iev_lit, iev_var, iev_add, iev_sub, iev_mul, iev_wrap, iev_ite, iev_hI, iev_hP, iev_hmlen, sev_ite, sev_slit, sev_sof, sev_svar, TV.ev, SV.ev, CV.ev, List.map_cons, List.map_nil, Res.hl, iev_quo, iev_rem]
  refine ⟨⟨⟨z.toNat, [], ?_, rfl, Nat.zero_le _, rfl, Int.le_refl _, Int.le_refl _, ⟨rfl, Or.inl ⟨rfl, rfl⟩⟩⟩, ?_⟩, fun q g ⟨⟨y, done, e24, hall, hdl, e22, r20, r23, hO⟩, hlt24⟩ => ?_⟩
  · show ρ.i 0 = _
    rw [v0]; omega
  · show ρ.i 0 < _
    rw [v0]; exact hz1
  have hal := congrArg List.length hall
  rw [List.length_append] at hal
  have hy64 : y < 18446744073709551616 := by omega
  rw [e24, quo128 y hy64]
  refine ⟨fun hge q1 g1 _ => ?_, fun hlt q1 g1 _ => ?_⟩
  · rw [g1.h 25 (by omega), g1.i 20 (by omega), g1.i 22 (by omega), g1.i 23 (by omega), g1.i 24 (by omega), e24, rem128]
    refine ⟨⟨⟨_, owB_pre hO e22⟩, by omega, by unfold maxLen; omega, by omega⟩, fun q2 g2 ⟨a1, a2, a3, _⟩ => ?_⟩
    have hyh : numB y = ((y % 128 + 128 : Nat) : Int) :: numB (y / 128) := numB_high (by omega)
    have hO2 := owB_app (bs2 := [((y % 128 + 128 : Nat) : Int)]) (m := 1) hO e22 rfl a3
    have e24' : IntKind.u64.wrap ((q2.i 24).tdiv 128) = ((y / 128 : Nat) : Int) := by
      rw [g2.i 24 (by omega), g1.i 24 (by omega), e24]; exact quo128 y hy64
    refine ⟨⟨⟨y / 128, done ++ [((y % 128 + 128 : Nat) : Int)], e24', ?_, ?_, ?_, a1, a2, ?_⟩, ?_⟩, ?_⟩
    · rw [List.append_assoc, ← hall, hyh]; rfl
    · rw [List.length_append, List.length_singleton]
      rw [hyh, List.length_cons] at hal
      omega
    · show q2.i 22 + 1 = _
      rw [g2.i 22 (by omega), g1.i 22 (by omega), e22, List.length_append, List.length_singleton]; omega
    · show OwB (q2.h 31) _ (.slice (slP (q2.i 31) 0) (q2.i 22 + 1).toNat (q2.i 32).toNat) _
      rw [g2.i 22 (by omega), g1.i 22 (by omega), e22]
      have := hO2
      unfold svb at this
      rw [List.length_append, List.length_singleton] at this
      exact this
    · show IntKind.u64.wrap ((q2.i 24).tdiv 128) < _
      rw [e24']; omega
    · show (IntKind.u64.wrap ((q2.i 24).tdiv 128)).toNat < _
      rw [e24']; omega
  · rw [g1.h 25 (by omega), g1.i 20 (by omega), g1.i 22 (by omega), g1.i 23 (by omega)]
    refine ⟨⟨⟨_, owB_pre hO e22⟩, by omega, by unfold maxLen; omega, by omega⟩, fun q2 g2 ⟨a1, a2, a3, _⟩ hd => ?_⟩
    have hyl : numB y = [(y : Int)] := numB_low (by omega)
    have eb : IntKind.u8.wrap (q1.i 24) = (y : Int) := by
      rw [g1.i 24 (by omega), e24, wu8]; omega
    rw [eb] at a3
    have hO2 := owB_app (bs2 := [(y : Int)]) (m := 1) hO e22 rfl a3
    rw [← hyl, hall] at hO2
    have e22' : q2.i 22 + 1 = ((numB z.toNat).length : Int) := by
      rw [g2.i 22 (by omega), g1.i 22 (by omega), e22]
      rw [hyl, List.length_singleton] at hal
      omega
    refine ⟨[], [0], rfl, rfl, ⟨⟨fun k => [q2.i 31, 0, q2.i 22 + 1, q2.i 32].getD k 0, fun _ => false, fun _ => .empty, fun _ => .tuple #[], fun _ => Hl.none⟩, rfl, ⟨a1, Int.le_refl _, by show 0 ≤ q2.i 22 + 1; omega, a2⟩, trivial⟩, z, rfl, ?_⟩
    show OwB (hls [q2.h 31]) _ (.slice (slP (q2.i 31) 0) (q2.i 22 + 1).toNat (q2.i 32).toNat) _
    rw [hls_one, e22']
    exact hO2
end Go.Proofs.YtomdimlnggpgbaaDoor
namespace Go.Proofs.YtomdimlnggpgbaaDoor
open Go Go.Sx Go.Pk Go.RowKit
def lex : List Int → List Int → Int
  | x :: xs, y :: ys => if x < y then -1 else if y < x then 1 else lex xs ys
  | _, _ => 0
def SortedT (T : List (List Int)) : Prop := ∀ i, i + 1 < T.length → lex (T.getD i []) (T.getD (i + 1) []) < 0
def BytesAt (w : World) (b o : Nat) (xs : List Int) : Prop := ∀ i x, xs[i]? = some x → w.cell? ⟨b, o + i, none⟩ = some (.int .u8 x)
theorem run_bytesAt {P : Program} {w : World} {b o n c : Nat} {xs : List Int} (h : BytesAt w b o xs) (hn : xs.length = n) : (Extern.Bytes.bytesOf (.slice (some ⟨b, o, none⟩) n c)).run P w = .ok ⟨(Lib.bytesOf xs).toArray⟩ w := by
  have hl := Lib.run_loadBytesX (P := P) w xs ⟨b, o, none⟩ .empty (fun j x hj => by
    have e : (⟨b, o, none⟩ : Addr).add j = ⟨b, o + j, none⟩ := by unfold Addr.add; split <;> simp_all
    rw [e, h j x hj])
  rw [hn] at hl
  simp only [Extern.Bytes.bytesOf, hl]
  congr 1
  apply ByteArray.ext
  show (#[] : Array UInt8) ++ (Lib.bytesOf xs).toArray = (Lib.bytesOf xs).toArray
  simp
def cmpOf (xs ys : List Int) : Int := Lib.compareBytes (Lib.bytesOf xs) (Lib.bytesOf ys)
theorem run_compareAt {P : Program} {w : World} {b o n c b' o' n' c' : Nat} {xs ys : List Int} (h : BytesAt w b o xs) (hn : xs.length = n) (h' : BytesAt w b' o' ys) (hn' : ys.length = n') :
    (Extern.BytealgCompare.compare #[.slice (some ⟨b, o, none⟩) n c, .slice (some ⟨b', o', none⟩) n' c']).run P w = .ok (.int .i64 (cmpOf xs ys)) w := by
  change Sem.run P (do pure (goInt (Extern.BytealgCompare.cmp (← Extern.Bytes.bytesOf (.slice (some ⟨b, o, none⟩) n c)) (← Extern.Bytes.bytesOf (.slice (some ⟨b', o', none⟩) n' c'))))) w = _
  simp only [Sem.run_bind, run_bytesAt h hn, run_bytesAt h' hn', Result.andThen_ok, Sem.run_pure, Lib.cmp_eq]
  rfl
set_option maxRecDepth 20000 in
theorem bytesCompare {w : World} {b o n c b' o' n' c' : Nat} {xs ys : List Int} (h : BytesAt w b o xs) (hn : xs.length = n) (h' : BytesAt w b' o' ys) (hn' : ys.length = n') :
    Calls Tryd.prog 130 #[.slice (some ⟨b, o, none⟩) n c, .slice (some ⟨b', o', none⟩) n' c'] w fun e w' => e = .returned (.int .i64 (cmpOf xs ys)) ∧ Below w.heap.size w w' := by
  go_enter Tryd.func130, Tryd.ntmps130
  go_wp2
  rw [run_callFunc_extern Tryd.func133 (by kernel_rfl) (by kernel_rfl) (by kernel_rfl) (e := Extern.BytealgCompare.compare) (by kernel_rfl), run_compareAt h hn h' hn']
  simp only [Result.andThen]
  rw [Oper.upon_value]
  go_wp2
  go_ret
  exact ⟨rfl, Below.refl _ _⟩
theorem u8_lt {x y : Int} (hx : 0 ≤ x ∧ x < 256) (hy : 0 ≤ y ∧ y < 256) : (UInt8.ofNat x.toNat < UInt8.ofNat y.toNat) = (x < y) := by
  rw [UInt8.lt_iff_toNat_lt, UInt8.toNat_ofNat_of_lt' (by simp; omega), UInt8.toNat_ofNat_of_lt' (by simp; omega)]
  exact propext (by omega)
theorem cmp_lex : ∀ (xs ys : List Int), xs.length = ys.length → bytes256 xs → bytes256 ys → cmpOf xs ys = lex xs ys
  | [], [], _, _, _ => rfl
  | x :: xs, y :: ys, h, hx, hy => by
    have ih := cmp_lex xs ys (by simpa using h) (fun z hz => hx z (by simp [hz])) (fun z hz => hy z (by simp [hz]))
    unfold cmpOf Lib.bytesOf at ih ⊢
    simp only [List.map_cons, Lib.compareBytes, lex, u8_lt (hx x (by simp)) (hy y (by simp)), u8_lt (hy y (by simp)) (hx x (by simp)), ih]
  | [], _ :: _, h, _, _ => by simp at h
  | _ :: _, [], h, _, _ => by simp at h
def cmpS : Sx.Spec where
  fn := 130
  own := []
  rd := [0, 1]
  res := [.one (.int .i64)]
  pre := fun xs Hs Rs => ∃ u v a b R1 R2, xs = [u, v] ∧ Rs = [R1, R2] ∧ RdB R1 u a ∧ RdB R2 v b ∧ a ≠ [] ∧ a.length = b.length ∧ bytes256 a ∧ bytes256 b
  post := fun xs Hs Rs w Hs' F => ∃ u v a b R1 R2, xs = [u, v] ∧ Rs = [R1, R2] ∧ RdB R1 u a ∧ RdB R2 v b ∧ w = .int .i64 (lex a b)
theorem at_of {R : Hl} {w : World} (hs : R.sub w) {x y : Int} {bs : List Int} (h : ∀ j z, bs[j]? = some z → R.cell x.toNat (y.toNat + j) = some (.int .u8 z)) : BytesAt w x.toNat y.toNat bs := fun j z hz => Hl.sub_cell hs (h j z hz)
theorem cmpS_ok : cmpS.OK Tryd.prog := by
  refine calls_spec rfl fun w xs Rs hs ⟨u, v, a, b, R1, R2, e1, e2, h1, h2, hne, hl, hb1, hb2⟩ => ?_
  subst e1 e2
  obtain ⟨x, y, c, rfl, hy, h1'⟩ := id h1
  obtain ⟨x', y', c', rfl, hy', h2'⟩ := id h2
  rcases h1' with ⟨_, h⟩ | ⟨hx, h1'⟩
  · exact absurd h hne
  rcases h2' with ⟨_, h⟩ | ⟨hx', h2'⟩
  · rw [h] at hl
    exact absurd (List.length_eq_zero_iff.1 hl) hne
  refine ⟨.int .i64 (lex a b), ⟨⟨fun _ => lex a b, fun _ => false, fun _ => .empty, fun _ => .tuple #[], fun _ => Hl.none⟩, rfl, trivial, trivial⟩, ?_, _, _, a, b, R1, R2, rfl, rfl, h1, h2, rfl⟩
  rw [slP_pos hx, slP_pos hx', ← cmp_lex a b hl hb1 hb2]
  exact bytesCompare (at_of (hs R1 (by simp)) h1') rfl (at_of (hs R2 (by simp)) h2') rfl
def tk : List Ck := List.replicate 16 (.int .u8)
def tkd : List Kd := List.replicate 16 (.int .u8)
def tokL (v : Value) : List Int := match v with
  | .agg a => a.toList.map fun v => valI (some v)
  | _ => []
def tokN (xs : List Value) : Prop := ∀ v ∈ xs, bytes256 (tokL v)
def compG (xs : List Value) : Value := match xs with
  | [a, b] => .int .i64 (lex (tokL a) (tokL b))
  | _ => .int .i64 0
def lessG (xs : List Value) : Value := match xs with
  | [a, b] => .bool (decide (lex (tokL a) (tokL b) < 0))
  | _ => .bool false
def compS : Sx.Spec := pureS 124 [.agg tk, .agg tk] [.one (.int .i64)] tokN compG
def lessS : Sx.Spec := pureS 121 [.agg tk, .agg tk] [.one .bool] (fun _ => True) lessG
def compNd : Nd := .ext (.alloc 32) (.ext (.alloc 33) (.and (.pre (.call 0 34 [.sv (.one (.sl (.var 32) (.lit 0) (.lit 16) (.lit 16))), .sv (.one (.sl (.var 33) (.lit 0) (.lit 16) (.lit 16)))] [] [.blk 32 (ckCVs 0 (List.replicate 16 (Ck.int .u8))) 97, .blk 33 (ckCVs 16 (List.replicate 16 (Ck.int .u8))) 97])) (.ext (.call 0 34 [.sv (.one (.sl (.var 32) (.lit 0) (.lit 16) (.lit 16))), .sv (.one (.sl (.var 33) (.lit 0) (.lit 16) (.lit 16)))] [] [.blk 32 (ckCVs 0 (List.replicate 16 (Ck.int .u8))) 97, .blk 33 (ckCVs 16 (List.replicate 16 (Ck.int .u8))) 97]) (.post [.dead, .dead] (.sv (.one (.int .i64 (.var 34))))))))
def compW : Walk Tryd.prog [cmpS] 124 where
  Λ := noLoops
  args := (cpSVs 0 [.agg tk, .agg tk]).map .sv
  mem := []
  nv := 32
  nd := compNd
  ok := by kernel_rfl
def tnum (q : Env) (n : Nat) : List Int := (List.range 16).map fun j => q.i (n + j)
theorem tok_in (q : Env) : inVs [.agg tk, .agg tk] q = [.agg ((tnum q 0).map (Value.int .u8)).toArray, .agg ((tnum q 16).map (Value.int .u8)).toArray] := rfl
theorem tokL_num (l : List Int) : tokL (.agg (l.map (Value.int .u8)).toArray) = l := by
  show ((l.map (Value.int .u8)).toArray.toList).map _ = l
  rw [List.map_map]
  exact List.map_id'' (fun _ => rfl) l
theorem shape_int (z : Int) : shapeOK [.one (.int .i64)] (.int .i64 z) := ⟨⟨fun _ => z, fun _ => false, fun _ => .empty, fun _ => .tuple #[], fun _ => Hl.none⟩, rfl, trivial, trivial⟩
theorem shape_bool (b : Bool) : shapeOK [.one .bool] (.bool b) := ⟨⟨fun _ => 0, fun _ => b, fun _ => .empty, fun _ => .tuple #[], fun _ => Hl.none⟩, rfl, trivial, trivial⟩
theorem rdB_blk {q : Env} {l : List Int} {T : TypeId} {a o n : Nat} (h0 : 0 ≤ q.i a) {cs : List CV} (hc : ∀ j z, l[j]? = some z → (cs.map (CV.ev q))[o + j]? = some (.int .u8 z)) (hn : n = l.length) {c : Int} : RdB ((Res.blk a cs T).hl q) (.slice (slP (q.i a) (o : Int)) ((n : Int)).toNat c.toNat) l := by
  subst hn
  refine ⟨q.i a, o, c.toNat, by rw [Int.toNat_natCast], by omega, Or.inr ⟨h0, fun j z hz => ?_⟩⟩
  show (Hl.one (q.i a).toNat (.cells (cs.map (CV.ev q)).toArray T (0, 0))).cell (q.i a).toNat _ = _
  unfold Hl.cell
  rw [Hl.one_self, Int.toNat_natCast]
  show (cs.map (CV.ev q)).toArray[o + j]? = _
  rw [List.getElem?_toArray]
  exact hc j z hz
theorem kg0 : [cmpS][0]? = some cmpS := rfl
theorem kr0 : cmpS.res = [.one (.int .i64)] := rfl
theorem kc0 : (cpRoots 34 [Cp.one (.int .i64)] ≠ []) = False := by simp [cpRoots, Cp.roots, Ck.root]
theorem tok_cells {q q2 : Env} (g : Agree 32 q q2) {n : Nat} (hn : n + 16 ≤ 32) : (ckCVs n tk).map (CV.ev q2) = (tnum q n).map (Value.int .u8) := by
  show [Value.int .u8 (q2.i n), .int .u8 (q2.i (n + 1)), .int .u8 (q2.i (n + 2)), .int .u8 (q2.i (n + 3)), .int .u8 (q2.i (n + 4)), .int .u8 (q2.i (n + 5)), .int .u8 (q2.i (n + 6)), .int .u8 (q2.i (n + 7)), .int .u8 (q2.i (n + 8)), .int .u8 (q2.i (n + 9)), .int .u8 (q2.i (n + 10)), .int .u8 (q2.i (n + 11)), .int .u8 (q2.i (n + 12)), .int .u8 (q2.i (n + 13)), .int .u8 (q2.i (n + 14)), .int .u8 (q2.i (n + 15))] = _
  rw [g.i n (by omega), g.i (n + 1) (by omega), g.i (n + 2) (by omega), g.i (n + 3) (by omega), g.i (n + 4) (by omega), g.i (n + 5) (by omega), g.i (n + 6) (by omega), g.i (n + 7) (by omega), g.i (n + 8) (by omega), g.i (n + 9) (by omega), g.i (n + 10) (by omega), g.i (n + 11) (by omega), g.i (n + 12) (by omega), g.i (n + 13) (by omega), g.i (n + 14) (by omega), g.i (n + 15) (by omega)]
  rfl
theorem compS_ok : compS.OK Tryd.prog := by
  refine pure_of (Γ := [cmpS]) (fun t ht => by rw [List.mem_singleton] at ht; subst ht; exact cmpS_ok) compW rfl rfl rfl (fun q _ _ => ?_) (fun q hq hN => ⟨fun _ _ => True, fun _ _ => 0, ?_⟩)
  · exact shape_int _
  · rw [tok_in] at hN ⊢
    have h1 : bytes256 (tnum q 0) := by
      have := hN _ (List.mem_cons_self ..)
      rwa [tokL_num] at this
    have h2 : bytes256 (tnum q 16) := by
      have := hN _ (List.mem_cons_of_mem _ (List.mem_cons_self ..))
      rwa [tokL_num] at this
    have eG : compG [.agg ((tnum q 0).map (Value.int .u8)).toArray, .agg ((tnum q 16).map (Value.int .u8)).toArray] = .int .i64 (lex (tnum q 0) (tnum q 16)) := by
      show Value.int .i64 (lex (tokL _) (tokL _)) = _
      rw [tokL_num, tokL_num]
    simp only [eG]
    show Nd.holds _ _ _ compNd
    unfold compNd
    simp only [Nd.holds, X.pre, X.rel, X.n, Src.ok, Src.len, Src.vals, true_and, and_true, if_true, Nat.mul_one, Nat.add_zero, Nat.reduceAdd, List.length_cons, List.length_nil, bT_tt, bT_ff, bT_bvar, bT_not, bT_and, bT_or, bT_ite, bT_lt, bT_le, bT_eq, bT_beq, bT_seq, bT_hB, bT_his, bT_hby, bT_hism, bT_hks, iev_lit, iev_var, iev_add, iev_sub, iev_mul, iev_wrap, iev_ite, iev_hI, iev_hP, iev_hmlen, sev_ite, sev_slit, sev_sof, sev_svar, TV.ev, SV.ev, CV.ev, List.map_cons, List.map_nil, Res.hl, cpTV, Cp.sv, Ck.cv, cpSVs, Cp.len, Ck.len, newHs_zero, newHs_one, roots_ne, kg0, kr0, kc0]
    intro q1 g1 p1 q2 g2 p2
    have g : Agree 32 q q2 := g1.trans (g2.mono (by omega))
    have c1 : ∀ j z, (tnum q 0)[j]? = some z → ((ckCVs 0 tk).map (CV.ev q2))[0 + j]? = some (.int .u8 z) := by
      rw [tok_cells g (by omega)]
      intro j z hz
      rw [Nat.zero_add, List.getElem?_map, hz]; rfl
    have c2 : ∀ j z, (tnum q 16)[j]? = some z → ((ckCVs 16 tk).map (CV.ev q2))[0 + j]? = some (.int .u8 z) := by
      rw [tok_cells g (by omega)]
      intro j z hz
      rw [Nat.zero_add, List.getElem?_map, hz]; rfl
    have p1' : 0 ≤ q2.i 32 := by rw [g2.i 32 (by omega)]; exact p1
    have r1 := rdB_blk (T := 97) (n := 16) (c := 16) p1' c1 rfl
    have r2 := rdB_blk (T := 97) (n := 16) (c := 16) p2 c2 rfl
    refine ⟨⟨_, _, tnum q 0, tnum q 16, _, _, rfl, rfl, r1, r2, (by simp [tnum]), rfl, h1, h2⟩, fun q3 g3 ⟨F, ⟨u, v, a, b, R1, R2, hx, hR, ha, hb, hv⟩, _⟩ => ?_⟩
    simp only [List.cons.injEq, and_true] at hx hR
    obtain ⟨rfl, rfl⟩ := hx
    obtain ⟨rfl, rfl⟩ := hR
    rw [← ha.uniq r1, ← hb.uniq r2]
    exact hv
def lessNd : Nd := .ext (.alloc 32) (.ext (.alloc 33) (.and (.imp (.not (.eq (.var 0) (.var 16))) (.post [.dead, .dead] (.sv (.one (.bool (.lt (.var 0) (.var 16))))))) (.imp (.eq (.var 0) (.var 16)) (.and (.imp (.not (.eq (.var 1) (.var 17))) (.post [.dead, .dead] (.sv (.one (.bool (.lt (.var 1) (.var 17))))))) (.imp (.eq (.var 1) (.var 17)) (.and (.imp (.not (.eq (.var 2) (.var 18))) (.post [.dead, .dead] (.sv (.one (.bool (.lt (.var 2) (.var 18))))))) (.imp (.eq (.var 2) (.var 18)) (.and (.imp (.not (.eq (.var 3) (.var 19))) (.post [.dead, .dead] (.sv (.one (.bool (.lt (.var 3) (.var 19))))))) (.imp (.eq (.var 3) (.var 19)) (.and (.imp (.not (.eq (.var 4) (.var 20))) (.post [.dead, .dead] (.sv (.one (.bool (.lt (.var 4) (.var 20))))))) (.imp (.eq (.var 4) (.var 20)) (.and (.imp (.not (.eq (.var 5) (.var 21))) (.post [.dead, .dead] (.sv (.one (.bool (.lt (.var 5) (.var 21))))))) (.imp (.eq (.var 5) (.var 21)) (.and (.imp (.not (.eq (.var 6) (.var 22))) (.post [.dead, .dead] (.sv (.one (.bool (.lt (.var 6) (.var 22))))))) (.imp (.eq (.var 6) (.var 22)) (.and (.imp (.not (.eq (.var 7) (.var 23))) (.post [.dead, .dead] (.sv (.one (.bool (.lt (.var 7) (.var 23))))))) (.imp (.eq (.var 7) (.var 23)) (.and (.imp (.not (.eq (.var 8) (.var 24))) (.post [.dead, .dead] (.sv (.one (.bool (.lt (.var 8) (.var 24))))))) (.imp (.eq (.var 8) (.var 24)) (.and (.imp (.not (.eq (.var 9) (.var 25))) (.post [.dead, .dead] (.sv (.one (.bool (.lt (.var 9) (.var 25))))))) (.imp (.eq (.var 9) (.var 25)) (.and (.imp (.not (.eq (.var 10) (.var 26))) (.post [.dead, .dead] (.sv (.one (.bool (.lt (.var 10) (.var 26))))))) (.imp (.eq (.var 10) (.var 26)) (.and (.imp (.not (.eq (.var 11) (.var 27))) (.post [.dead, .dead] (.sv (.one (.bool (.lt (.var 11) (.var 27))))))) (.imp (.eq (.var 11) (.var 27)) (.and (.imp (.not (.eq (.var 12) (.var 28))) (.post [.dead, .dead] (.sv (.one (.bool (.lt (.var 12) (.var 28))))))) (.imp (.eq (.var 12) (.var 28)) (.and (.imp (.not (.eq (.var 13) (.var 29))) (.post [.dead, .dead] (.sv (.one (.bool (.lt (.var 13) (.var 29))))))) (.imp (.eq (.var 13) (.var 29)) (.and (.imp (.not (.eq (.var 14) (.var 30))) (.post [.dead, .dead] (.sv (.one (.bool (.lt (.var 14) (.var 30))))))) (.imp (.eq (.var 14) (.var 30)) (.and (.imp (.not (.eq (.var 15) (.var 31))) (.post [.dead, .dead] (.sv (.one (.bool (.lt (.var 15) (.var 31))))))) (.imp (.eq (.var 15) (.var 31)) (.post [.dead, .dead] (.sv (.one (.bool .ff)))))))))))))))))))))))))))))))))))))
def lessW : Walk Tryd.prog [] 121 where
  Λ := noLoops
  args := (cpSVs 0 [.agg tk, .agg tk]).map .sv
  mem := []
  nv := 32
  nd := lessNd
  ok := by kernel_rfl
theorem lex_ne {a b : Int} {xs ys : List Int} (h : ¬ a = b) : decide (a < b) = decide (lex (a :: xs) (b :: ys) < 0) := by
  unfold lex
  by_cases h1 : a < b
  · simp [h1]
  · have h2 : b < a := by omega
    simp [h1, h2]
theorem lex_eq {a b : Int} {xs ys : List Int} (h : a = b) : lex (a :: xs) (b :: ys) = lex xs ys := by
  subst h
  show (if a < a then _ else if a < a then _ else _) = _
  rw [if_neg (Int.lt_irrefl _), if_neg (Int.lt_irrefl _)]
theorem lessK {a b : Int} {xs ys : List Int} {u v : Value} {Y : Prop} (hu : u = .bool (decide (a < b))) (hv : v = .bool (decide (lex (a :: xs) (b :: ys) < 0))) (h : v = .bool (decide (lex xs ys < 0)) → Y) : (¬ a = b → u = v) ∧ (a = b → Y) :=
  ⟨fun hn => by rw [hu, hv, lex_ne hn], fun he => h (by rw [hv, lex_eq he])⟩
theorem tnum_list (q : Env) (n : Nat) : tnum q n = [q.i n, q.i (n + 1), q.i (n + 2), q.i (n + 3), q.i (n + 4), q.i (n + 5), q.i (n + 6), q.i (n + 7), q.i (n + 8), q.i (n + 9), q.i (n + 10), q.i (n + 11), q.i (n + 12), q.i (n + 13), q.i (n + 14), q.i (n + 15)] := rfl
theorem lessS_ok : lessS.OK Tryd.prog := by
  refine pure_of (Γ := []) (fun t ht => by cases ht) lessW rfl rfl rfl (fun q _ _ => ?_) (fun q hq hN => ⟨fun _ _ => True, fun _ _ => 0, ?_⟩)
  · exact shape_bool _
  · rw [tok_in]
    have eG : lessG [.agg ((tnum q 0).map (Value.int .u8)).toArray, .agg ((tnum q 16).map (Value.int .u8)).toArray] = .bool (decide (lex (tnum q 0) (tnum q 16) < 0)) := by
      show Value.bool (decide (lex (tokL _) (tokL _) < 0)) = _
      rw [tokL_num, tokL_num]
    simp only [eG]
    show Nd.holds _ _ _ lessNd
    unfold lessNd
    simp only [Nd.holds, X.pre, X.rel, X.n, Src.ok, Src.len, Src.vals, true_and, and_true, if_true, Nat.mul_one, Nat.add_zero, Nat.reduceAdd, List.length_cons, List.length_nil, bT_tt, bT_ff, bT_bvar, bT_not, bT_and, bT_or, bT_ite, bT_lt, bT_le, bT_eq, bT_beq, bT_seq, bT_hB, bT_his, bT_hby, bT_hism, bT_hks, iev_lit, iev_var, iev_add, iev_sub, iev_mul, iev_wrap, iev_ite, iev_hI, iev_hP, iev_hmlen, sev_ite, sev_slit, sev_sof, sev_svar, TV.ev, SV.ev, CV.ev, List.map_cons, List.map_nil, Res.hl, cpTV, Cp.sv, Ck.cv, cpSVs, Cp.len, Ck.len, newHs_zero, newHs_one, roots_ne]
    intro q1 g1 p1 q2 g2 p2
    have g : Agree 32 q q2 := g1.trans (g2.mono (by omega))
    have e : ∀ n, n + 16 ≤ 32 → tnum q n = tnum q2 n := fun n hn => List.map_congr_left fun j hj => (g.i (n + j) (by have := List.mem_range.1 hj; omega)).symm
    rw [e 0 (by omega), e 16 (by omega), tnum_list, tnum_list]
    generalize hV : Value.bool (decide (lex _ _ < 0)) = V
    have hV := hV.symm
    exact lessK rfl hV fun h0 => lessK rfl h0 fun h1 => lessK rfl h1 fun h2 => lessK rfl h2 fun h3 => lessK rfl h3 fun h4 => lessK rfl h4 fun h5 => lessK rfl h5 fun h6 => lessK rfl h6 fun h7 => lessK rfl h7 fun h8 => lessK rfl h8 fun h9 => lessK rfl h9 fun h10 => lessK rfl h10 fun h11 => lessK rfl h11 fun h12 => lessK rfl h12 fun h13 => lessK rfl h13 fun h14 => lessK rfl h14 fun h15 => (h15.trans rfl).symm
def toksIn (T : List (List Int)) : Prop := T.length ≤ 1000000 ∧ ∀ t ∈ T, t.length = 16 ∧ bytes256 t
open Classical in
noncomputable def sortS (f : FuncId) : Sx.Spec where
  fn := f
  own := []
  rd := [0]
  res := [.one .bool]
  pre := fun xs Hs Rs => ∃ u R T, xs = [u] ∧ Rs = [R] ∧ RdRows R u tkd (T.map bys) ∧ toksIn T
  post := fun xs Hs Rs v Hs' F => ∃ u R T, xs = [u] ∧ Rs = [R] ∧ RdRows R u tkd (T.map bys) ∧ v = .bool (decide (SortedT T))
def kSortNd : Nd := .and (.inv 0 [⟨10, 0, .int .i64 (.lit 1)⟩] []) (.havoc 0 0 5 (.and (.e (.le (.lit 0) (.var 2))) (.and (.imp (.lt (.var 10) (.var 2)) (.and (.e (.le (.lit 0) (.var 0))) (.and (.e (.le (.lit 0) (.var 1))) (.and (.e (.le (.lit 0) (.wrap .i64 (.sub (.var 10) (.lit 1))))) (.and (.e (.lt (.wrap .i64 (.sub (.var 10) (.lit 1))) (.var 2))) (.and (.e (.hby 4 (.var 0) (.add (.var 1) (.mul (.wrap .i64 (.sub (.var 10) (.lit 1))) (.lit 16))) (.lit 16))) (.and (.e (.le (.lit 0) (.var 10))) (.and (.e (.hby 4 (.var 0) (.add (.var 1) (.mul (.var 10) (.lit 16))) (.lit 16))) (.and (.pre (.call 1 12 [.sv (.agg (romCells 4 (.var 0) (.add (.var 1) (.mul (.wrap .i64 (.sub (.var 10) (.lit 1))) (.lit 16))) 0 (List.replicate 16 (Kd.int .u8)))), .sv (.agg (romCells 4 (.var 0) (.add (.var 1) (.mul (.var 10) (.lit 16))) 0 (List.replicate 16 (Kd.int .u8))))] [] [])) (.ext (.call 1 12 [.sv (.agg (romCells 4 (.var 0) (.add (.var 1) (.mul (.wrap .i64 (.sub (.var 10) (.lit 1))) (.lit 16))) 0 (List.replicate 16 (Kd.int .u8)))), .sv (.agg (romCells 4 (.var 0) (.add (.var 1) (.mul (.var 10) (.lit 16))) 0 (List.replicate 16 (Kd.int .u8))))] [] []) (.and (.imp (.le (.lit 0) (.var 12)) (.post [.ro 4 [.var 0] false] (.sv (.one (.bool .ff))))) (.imp (.not (.le (.lit 0) (.var 12))) (.back 0 0 [⟨10, 0, .int .i64 (.wrap .i64 (.add (.var 10) (.lit 1)))⟩] []))))))))))))) (.imp (.not (.lt (.var 10) (.var 2))) (.post [.ro 4 [.var 0] false] (.sv (.one (.bool .tt))))))))
def rSortNd : Nd := .and (.inv 0 [⟨10, 0, .int .i64 (.lit 0)⟩] []) (.havoc 0 0 5 (.and (.e (.le (.lit 0) (.var 2))) (.and (.imp (.lt (.wrap .i64 (.add (.var 10) (.lit 1))) (.var 2)) (.and (.e (.le (.lit 0) (.var 0))) (.and (.e (.le (.lit 0) (.var 1))) (.and (.e (.le (.lit 0) (.var 10))) (.and (.e (.lt (.var 10) (.var 2))) (.and (.e (.hby 4 (.var 0) (.add (.var 1) (.mul (.var 10) (.lit 16))) (.lit 16))) (.and (.e (.le (.lit 0) (.wrap .i64 (.add (.var 10) (.lit 1))))) (.and (.e (.hby 4 (.var 0) (.add (.var 1) (.mul (.wrap .i64 (.add (.var 10) (.lit 1))) (.lit 16))) (.lit 16))) (.and (.pre (.call 2 12 [.sv (.agg (romCells 4 (.var 0) (.add (.var 1) (.mul (.var 10) (.lit 16))) 0 (List.replicate 16 (Kd.int .u8)))), .sv (.agg (romCells 4 (.var 0) (.add (.var 1) (.mul (.wrap .i64 (.add (.var 10) (.lit 1))) (.lit 16))) 0 (List.replicate 16 (Kd.int .u8))))] [] [])) (.ext (.call 2 12 [.sv (.agg (romCells 4 (.var 0) (.add (.var 1) (.mul (.var 10) (.lit 16))) 0 (List.replicate 16 (Kd.int .u8)))), .sv (.agg (romCells 4 (.var 0) (.add (.var 1) (.mul (.wrap .i64 (.add (.var 10) (.lit 1))) (.lit 16))) 0 (List.replicate 16 (Kd.int .u8))))] [] []) (.and (.imp (.not (.bvar 12)) (.post [.ro 4 [.var 0] false] (.sv (.one (.bool .ff))))) (.imp (.bvar 12) (.back 0 0 [⟨10, 0, .int .i64 (.wrap .i64 (.add (.var 10) (.lit 1)))⟩] []))))))))))))) (.imp (.not (.lt (.wrap .i64 (.add (.var 10) (.lit 1))) (.var 2))) (.post [.ro 4 [.var 0] false] (.sv (.one (.bool .tt))))))))
def srtΓ : List Sx.Spec := [cmpS, compS, lessS]
theorem srtΓ_ok : ∀ t ∈ srtΓ, t.OK Tryd.prog := fun t ht => by
  simp only [srtΓ, List.mem_cons, List.mem_nil_iff, or_false] at ht
  rcases ht with rfl | rfl | rfl
  · exact cmpS_ok
  · exact compS_ok
  · exact lessS_ok
theorem sg1 : srtΓ[1]? = some compS := rfl
theorem sg2 : srtΓ[2]? = some lessS := rfl
theorem sr1 : compS.res = [.one (.int .i64)] := rfl
theorem sr2 : lessS.res = [.one .bool] := rfl
theorem sc1 (n : Nat) : (cpRoots n [Cp.one (.int .i64)] ≠ []) = False := by simp [cpRoots, Cp.roots, Ck.root]
theorem sc2 (n : Nat) : (cpRoots n [Cp.one .bool] ≠ []) = False := by simp [cpRoots, Cp.roots, Ck.root]
def srtArgs : List TV := [.sv (.one (.sl (.var 0) (.var 1) (.var 2) (.var 3)))]
def kSortW : Walk Tryd.prog srtΓ 100 where
  Λ := fun p => if lp0 p then some ⟨0, [(3, TI .i64 (.var 10))], [], 12⟩ else none
  args := srtArgs
  mem := [.ro 4 [.var 0] false]
  nv := 5
  nd := kSortNd
  ok := by kernel_rfl
def rSortW : Walk Tryd.prog srtΓ 91 where
  Λ := fun p => if lp0 p then some ⟨0, [(3, TI .i64 (.var 10))], [], 12⟩ else none
  args := srtArgs
  mem := [.ro 4 [.var 0] false]
  nv := 5
  nd := rSortNd
  ok := by kernel_rfl
theorem tokIn {a b : List Int} (ha : a.length = 16) (hb : b.length = 16) (h1 : bytes256 a) (h2 : bytes256 b) : (∃ q, cpNormsW 0 [.agg tk, .agg tk] q ∧ [.agg (bys a).toArray, .agg (bys b).toArray] = inVs [.agg tk, .agg tk] q) ∧ tokN [.agg (bys a).toArray, .agg (bys b).toArray] := by
  refine ⟨⟨envI (a ++ b) false [], by simp [cpNormsW, cpNormW, tk, ckNormsW, ckNormW, ckNorms, ckNorm, List.replicate], ?_⟩, ?_⟩
  · rw [tok_in]
    have e1 : tnum (envI (a ++ b) false []) 0 = a := by
      apply List.ext_getElem?
      intro j
      unfold tnum
      rw [List.getElem?_map]
      by_cases hj : j < 16
      · rw [List.getElem?_range hj, List.getElem?_eq_getElem (by omega)]
        show some ((a ++ b).getD (0 + j) 0) = _
        rw [Nat.zero_add, List.getD_eq_getElem?_getD, List.getElem?_append_left (by omega), List.getElem?_eq_getElem (by omega)]; rfl
      · rw [List.getElem?_eq_none (by simp; omega), List.getElem?_eq_none (by omega)]; rfl
    have e2 : tnum (envI (a ++ b) false []) 16 = b := by
      apply List.ext_getElem?
      intro j
      unfold tnum
      rw [List.getElem?_map]
      by_cases hj : j < 16
      · rw [List.getElem?_range hj, List.getElem?_eq_getElem (by omega)]
        show some ((a ++ b).getD (16 + j) 0) = _
        rw [List.getD_eq_getElem?_getD, List.getElem?_append_right (by omega), show 16 + j - a.length = j by omega, List.getElem?_eq_getElem (by omega)]; rfl
      · rw [List.getElem?_eq_none (by simp; omega), List.getElem?_eq_none (by omega)]; rfl
    rw [e1, e2]; rfl
  · intro v hv
    simp only [List.mem_cons, List.mem_nil_iff, or_false] at hv
    rcases hv with rfl | rfl
    · show bytes256 (tokL (.agg (a.map (Value.int .u8)).toArray)); rw [tokL_num]; exact h1
    · show bytes256 (tokL (.agg (b.map (Value.int .u8)).toArray)); rw [tokL_num]; exact h2
theorem rowOK_tok {t : List Int} (h : t.length = 16) : rowOK (bys t) tkd := by
  match t, h with
  | [_, _, _, _, _, _, _, _, _, _, _, _, _, _, _, _], _ => exact ⟨rfl, rfl, rfl, rfl, rfl, rfl, rfl, rfl, rfl, rfl, rfl, rfl, rfl, rfl, rfl, rfl, trivial⟩
theorem tok_at {R : Hl} {x y : Int} {T : List (List Int)} (hx : 0 ≤ x) (hy : 0 ≤ y) (hc : ∀ (i : Nat) row, (T.map bys)[i]? = some row → rowOK row tkd ∧ ∀ j u, row[j]? = some u → R.cell x.toNat (y.toNat + i * tkd.length + j) = some u) {i : Nat} {t : List Int} (ht : T[i]? = some t) (hl : t.length = 16) {ρ : Env} {h : Nat} (hR : ρ.h h = R) {X Y : E} (hX : iev ρ X = x) (hY : iev ρ Y = y + i * 16) :
    cellBytes R x.toNat (y + (i : Int) * 16).toNat (Int.toNat 16) = true ∧ (romCells h X Y 0 (List.replicate 16 (Kd.int .u8))).map (CV.ev ρ) = bys t := by
  have h1 := (hc i (bys t) (by rw [List.getElem?_map, ht]; rfl)).2
  have hlen : tkd.length = 16 := rfl
  rw [hlen] at h1
  have hyi : (y + (i : Int) * 16).toNat = y.toNat + i * 16 := by omega
  constructor
  · unfold cellBytes
    rw [List.all_eq_true]
    intro j hj
    have hj : j < 16 := List.mem_range.1 hj
    rw [hyi, h1 j (.int .u8 (t[j])) (by unfold bys; rw [List.getElem?_map, List.getElem?_eq_getElem (by omega)]; rfl)]
    rfl
  · refine romCells_row (bys t) _ 0 (rowOK_tok hl) fun j u hu => ?_
    rw [hR, hX, hY, hyi, Nat.zero_add]
    exact h1 j u hu
theorem comp_post {a b : List Int} {v : Value} {F : Hl} {Hs Rs K : List Hl} (hp : compS.post [.agg (bys a).toArray, .agg (bys b).toArray] Hs Rs v K F) : v = .int .i64 (lex a b) := by
  have hp : v = .int .i64 (lex (tokL (.agg (a.map (Value.int .u8)).toArray)) (tokL (.agg (b.map (Value.int .u8)).toArray))) := hp
  rw [tokL_num, tokL_num] at hp
  exact hp
theorem less_post {a b : List Int} {v : Value} {F : Hl} {Hs Rs K : List Hl} (hp : lessS.post [.agg (bys a).toArray, .agg (bys b).toArray] Hs Rs v K F) : v = .bool (decide (lex a b < 0)) := by
  have hp : v = .bool (decide (lex (tokL (.agg (a.map (Value.int .u8)).toArray)) (tokL (.agg (b.map (Value.int .u8)).toArray)) < 0)) := hp
  rw [tokL_num, tokL_num] at hp
  exact hp
open Classical in
theorem srt_post {f : FuncId} {x y : Int} {c : Nat} {T : List (List Int)} {R : Hl} {b : Bool} (h : RdRows R (.slice (slP x y) (T.map bys).length c) tkd (T.map bys)) (hb : b = true ↔ SortedT T) {q : Env} {e : E} (he : bev q e = b) {mem : Mem} : postOf (sortS f) [.slice (slP x y) (T.map bys).length c] [] [R] q mem (.sv (.one (.bool e))) := by
  intro _
  refine ⟨[], [], rfl, rfl, ⟨⟨fun _ => 0, fun _ => b, fun _ => .empty, fun _ => .tuple #[], fun _ => Hl.none⟩, by show Value.bool (bev q e) = _; rw [he]; rfl, trivial, trivial⟩, _, R, T, rfl, rfl, h, ?_⟩
  show Value.bool (bev q e) = _
  rw [he]
  congr 1
  rw [Bool.eq_iff_iff, decide_eq_true_eq]; exact hb
theorem kSortS_ok : (sortS 100).OK Tryd.prog := by
  refine Spec.of_fn (Γ := srtΓ) srtΓ_ok ?_
  rintro xs Hs Rs hl1 hl2 ⟨u, R, T, rfl, rfl, hR, hT⟩
  have e0 : Hs = [] := List.length_eq_zero_iff.1 hl1
  subst e0
  obtain ⟨x, y, c, rfl, hy, hrows⟩ := id hR
  refine ⟨kSortW, envI [x, y, T.length, c] false [Hl.none, Hl.none, Hl.none, Hl.none, R], fun _ q => ∃ i : Nat, q.i 10 = i ∧ 1 ≤ i ∧ i ≤ T.length + 1 ∧ ∀ k, k + 1 < i → k + 1 < T.length → lex (T.getD k []) (T.getD (k + 1) []) < 0, fun _ q => (T.length - q.i 10).toNat, ?_, ⟨?_, ?_, ?_, ?_⟩, (fun _ h => nomatch h), ?_⟩
  · rw [List.length_map]
    show [Value.slice (slP x y) ((T.length : Int)).toNat ((c : Int)).toNat] = _
    rw [Int.toNat_natCast, Int.toNat_natCast]
  · intro r hr ho; simp [kSortW] at hr; subst hr; cases ho
  · intro r hr ho; simp [kSortW] at hr; subst hr; exact ⟨R, by simp, Hl.le_refl _⟩
  · simp [kSortW]
  · intro r hr; simp [kSortW] at hr; subst hr; trivial
  · show Nd.holds _ _ _ kSortNd
    generalize hρ : envI [x, y, T.length, c] false [Hl.none, Hl.none, Hl.none, Hl.none, R] = ρ
    have v0 : ρ.i 0 = x := by rw [← hρ]; rfl
    have v1 : ρ.i 1 = y := by rw [← hρ]; rfl
    have v2 : ρ.i 2 = T.length := by rw [← hρ]; rfl
    have w4 : ρ.h 4 = R := by rw [← hρ]; rfl
    clear hρ
    unfold kSortNd
    simp only [Nd.holds, X.pre, X.rel, X.n, Src.ok, Src.len, Src.vals, true_and, and_true, if_true, Nat.mul_one, Nat.add_zero, Nat.reduceAdd, List.length_cons, List.length_nil, bT_tt, bT_ff, bT_bvar, bT_not, bT_and, bT_or, bT_ite, bT_lt, bT_le, bT_eq, bT_beq, bT_seq, bT_hB, bT_his, bT_hby, bT_hism, bT_hks, iev_lit, iev_var, iev_add, iev_sub, iev_mul, iev_wrap, iev_ite, iev_hI, iev_hP, iev_hmlen, sev_ite, sev_slit, sev_sof, sev_svar, TV.ev, SV.ev, CV.ev, List.map_cons, List.map_nil, Res.hl, cpTV, Cp.sv, Ck.cv, cpSVs, Cp.len, Ck.len, newHs_zero, newHs_one, roots_ne, sg1, sr1, sc1]
    refine ⟨⟨1, rfl, Nat.le_refl _, by omega, fun k h => by omega⟩, fun q g ⟨i, ei, hi1, hi2, hlt⟩ => ?_⟩
    have hTl := hT.1
    rw [g.i 2 (by omega), v2, ei, g.i 0 (by omega), v0, g.i 1 (by omega), v1, g.h 4 (by omega), w4]
    have ew : IntKind.i64.wrap ((i : Int) - 1) = ((i - 1 : Nat) : Int) := by rw [IntWalk.i64_in _ (by omega)]; omega
    rw [ew]
    refine ⟨by omega, fun h => ?_, fun h => ?_⟩
    · have hiT : i < T.length := by omega
      rcases hrows with hn | ⟨hx, hc⟩
      · rw [List.map_eq_nil_iff] at hn
        rw [hn] at hiT; cases hiT
      have ht1 : T[i - 1]? = some (T[i - 1]) := List.getElem?_eq_getElem (by omega)
      have ht2 : T[i]? = some (T[i]) := List.getElem?_eq_getElem hiT
      have m1 := hT.2 _ (List.mem_of_getElem? ht1)
      have m2 := hT.2 _ (List.mem_of_getElem? ht2)
      obtain ⟨b1, r1⟩ := tok_at (ρ := q) (h := 4) (X := .var 0) (Y := (E.var 1).add ((E.wrap IntKind.i64 ((E.var 10).sub (E.lit 1))).mul (E.lit 16))) hx hy hc ht1 m1.1 (by rw [g.h 4 (by omega), w4]) (by rw [iev_var, g.i 0 (by omega), v0]) (by
        simp only [iev_add, iev_mul, iev_wrap, iev_sub, iev_var, iev_lit]
        rw [g.i 1 (by omega), v1, ei, ew])
      obtain ⟨b2, r2⟩ := tok_at (ρ := q) (h := 4) (X := .var 0) (Y := (E.var 1).add ((E.var 10).mul (E.lit 16))) hx hy hc ht2 m2.1 (by rw [g.h 4 (by omega), w4]) (by rw [iev_var, g.i 0 (by omega), v0]) (by
        simp only [iev_add, iev_mul, iev_var, iev_lit]
        rw [g.i 1 (by omega), v1, ei])
      rw [r1, r2]
      refine ⟨hx, hy, by omega, by omega, b1, by omega, b2, tokIn m1.1 m2.1 m1.2 m2.2, fun q1 g1 ⟨F, hp, _⟩ => ?_⟩
      have hv := comp_post hp
      have hv : q1.i 12 = lex T[i - 1] T[i] := by simpa using hv
      have d1 : T.getD (i - 1) [] = T[i - 1] := by rw [List.getD_eq_getElem?_getD, ht1]; rfl
      have d2 : T.getD (i - 1 + 1) [] = T[i] := by rw [show i - 1 + 1 = i by omega, List.getD_eq_getElem?_getD, ht2]; rfl
      have ew2 : IntKind.i64.wrap (q1.i 10 + 1) = ((i + 1 : Nat) : Int) := by rw [g1.i 10 (by omega), ei, IntWalk.i64_in _ (by omega)]; omega
      rw [hv]
      refine ⟨fun hge => srt_post (b := false) hR ⟨(by simp), fun hS => ?_⟩ rfl, fun hl => ⟨⟨i + 1, ew2, by omega, by omega, fun k hk hkT => ?_⟩, ?_⟩⟩
      · have := hS (i - 1) (by omega)
        rw [d1, d2] at this
        omega
      · rcases Nat.lt_or_ge (k + 1) i with h1 | h1
        · exact hlt k h1 hkT
        · obtain rfl : k = i - 1 := by omega
          rw [d1, d2]; omega
      · show ((T.length : Int) - IntKind.i64.wrap (q1.i 10 + 1)).toNat < _
        rw [ew2]; omega
    · exact srt_post (b := true) hR ⟨fun _ k hk => hlt k (by omega) hk, fun _ => rfl⟩ rfl
theorem rSortS_ok : (sortS 91).OK Tryd.prog := by
  refine Spec.of_fn (Γ := srtΓ) srtΓ_ok ?_
  rintro xs Hs Rs hl1 hl2 ⟨u, R, T, rfl, rfl, hR, hT⟩
  have e0 : Hs = [] := List.length_eq_zero_iff.1 hl1
  subst e0
  obtain ⟨x, y, c, rfl, hy, hrows⟩ := id hR
  refine ⟨rSortW, envI [x, y, T.length, c] false [Hl.none, Hl.none, Hl.none, Hl.none, R], fun _ q => ∃ i : Nat, q.i 10 = i ∧ i ≤ T.length ∧ ∀ k, k < i → k + 1 < T.length → lex (T.getD k []) (T.getD (k + 1) []) < 0, fun _ q => (T.length - q.i 10).toNat, ?_, ⟨?_, ?_, ?_, ?_⟩, (fun _ h => nomatch h), ?_⟩
  · rw [List.length_map]
    show [Value.slice (slP x y) ((T.length : Int)).toNat ((c : Int)).toNat] = _
    rw [Int.toNat_natCast, Int.toNat_natCast]
  · intro r hr ho; simp [rSortW] at hr; subst hr; cases ho
  · intro r hr ho; simp [rSortW] at hr; subst hr; exact ⟨R, by simp, Hl.le_refl _⟩
  · simp [rSortW]
  · intro r hr; simp [rSortW] at hr; subst hr; trivial
  · show Nd.holds _ _ _ rSortNd
    generalize hρ : envI [x, y, T.length, c] false [Hl.none, Hl.none, Hl.none, Hl.none, R] = ρ
    have v0 : ρ.i 0 = x := by rw [← hρ]; rfl
    have v1 : ρ.i 1 = y := by rw [← hρ]; rfl
    have v2 : ρ.i 2 = T.length := by rw [← hρ]; rfl
    have w4 : ρ.h 4 = R := by rw [← hρ]; rfl
    clear hρ
    unfold rSortNd
    simp only [Nd.holds, X.pre, X.rel, X.n, Src.ok, Src.len, Src.vals, true_and, and_true, if_true, Nat.mul_one, Nat.add_zero, Nat.reduceAdd, List.length_cons, List.length_nil, bT_tt, bT_ff, bT_bvar, bT_not, bT_and, bT_or, bT_ite, bT_lt, bT_le, bT_eq, bT_beq, bT_seq, bT_hB, bT_his, bT_hby, bT_hism, bT_hks, iev_lit, iev_var, iev_add, iev_sub, iev_mul, iev_wrap, iev_ite, iev_hI, iev_hP, iev_hmlen, sev_ite, sev_slit, sev_sof, sev_svar, TV.ev, SV.ev, CV.ev, List.map_cons, List.map_nil, Res.hl, cpTV, Cp.sv, Ck.cv, cpSVs, Cp.len, Ck.len, newHs_zero, newHs_one, roots_ne, sg2, sr2, sc2]
    refine ⟨⟨0, rfl, by omega, fun k h => by omega⟩, fun q g ⟨i, ei, hi2, hlt⟩ => ?_⟩
    have hTl := hT.1
    rw [g.i 2 (by omega), v2, ei, g.i 0 (by omega), v0, g.i 1 (by omega), v1, g.h 4 (by omega), w4]
    have ew : IntKind.i64.wrap ((i : Int) + 1) = ((i + 1 : Nat) : Int) := by rw [IntWalk.i64_in _ (by omega)]; omega
    rw [ew]
    refine ⟨by omega, fun h => ?_, fun h => ?_⟩
    · have hiT : i + 1 < T.length := by omega
      rcases hrows with hn | ⟨hx, hc⟩
      · rw [List.map_eq_nil_iff] at hn
        rw [hn] at hiT; cases hiT
      have ht1 : T[i]? = some (T[i]) := List.getElem?_eq_getElem (by omega)
      have ht2 : T[i + 1]? = some (T[i + 1]) := List.getElem?_eq_getElem hiT
      have m1 := hT.2 _ (List.mem_of_getElem? ht1)
      have m2 := hT.2 _ (List.mem_of_getElem? ht2)
      obtain ⟨b1, r1⟩ := tok_at (ρ := q) (h := 4) (X := .var 0) (Y := (E.var 1).add ((E.var 10).mul (E.lit 16))) hx hy hc ht1 m1.1 (by rw [g.h 4 (by omega), w4]) (by rw [iev_var, g.i 0 (by omega), v0]) (by
        simp only [iev_add, iev_mul, iev_var, iev_lit]
        rw [g.i 1 (by omega), v1, ei])
      obtain ⟨b2, r2⟩ := tok_at (ρ := q) (h := 4) (X := .var 0) (Y := (E.var 1).add ((E.wrap IntKind.i64 ((E.var 10).add (E.lit 1))).mul (E.lit 16))) hx hy hc ht2 m2.1 (by rw [g.h 4 (by omega), w4]) (by rw [iev_var, g.i 0 (by omega), v0]) (by
        simp only [iev_add, iev_mul, iev_wrap, iev_var, iev_lit]
        rw [g.i 1 (by omega), v1, ei, ew])
      rw [r1, r2]
      refine ⟨hx, hy, by omega, by omega, b1, by omega, b2, ⟨(tokIn m1.1 m2.1 m1.2 m2.2).1, trivial⟩, fun q1 g1 ⟨F, hp, _⟩ => ?_⟩
      have hv := less_post hp
      have hv : q1.b 12 = decide (lex T[i] T[i + 1] < 0) := by simpa [bev_bvar] using hv
      have d1 : T.getD i [] = T[i] := by rw [List.getD_eq_getElem?_getD, ht1]; rfl
      have d2 : T.getD (i + 1) [] = T[i + 1] := by rw [List.getD_eq_getElem?_getD, ht2]; rfl
      have ew2 : IntKind.i64.wrap (q1.i 10 + 1) = ((i + 1 : Nat) : Int) := by rw [g1.i 10 (by omega), ei, ew]
      rw [hv, decide_eq_true_eq]
      refine ⟨fun hge => srt_post (b := false) hR ⟨(by simp), fun hS => ?_⟩ rfl, fun hl => ⟨⟨i + 1, ew2, by omega, fun k hk hkT => ?_⟩, ?_⟩⟩
      · have := hS i (by omega)
        rw [d1, d2] at this
        exact absurd this hge
      · rcases Nat.lt_or_ge k i with h1 | h1
        · exact hlt k h1 hkT
        · obtain rfl : k = i := by omega
          rw [d1, d2]; exact hl
      · show ((T.length : Int) - IntKind.i64.wrap (q1.i 10 + 1)).toNat < _
        rw [ew2]; omega
    · exact srt_post (b := true) hR ⟨fun _ k hk => hlt k (by omega) hk, fun _ => rfl⟩ rfl
end Go.Proofs.YtomdimlnggpgbaaDoor
namespace Go.Proofs.YtomdimlnggpgbaaDoor
open Go Go.Sx Go.Pk
def i64 : Ck := .int .i64
def hk2 : List Ck := [i64, .int .u64] ++ List.replicate 32 (.int .u8) ++ [i64, .bool, .int .u64] ++ List.replicate 16 (.int .u8) ++ [.sl] ++ List.replicate 6 (.int .u64) ++ List.replicate 32 (.int .u8) ++ [i64] ++ List.replicate 32 (.int .u8)
def hkd : List Kd := hk2.map kdOf
def cI (l : List Value) (k : Nat) : Int := valI l[k]?
def cB (l : List Value) (k : Nat) : Bool := valB l[k]?
def isPad (z : Int) : Prop := z = 64 ∨ z = 128 ∨ z = 256 ∨ z = 512 ∨ z = 1024 ∨ z = 2048
instance (z : Int) : Decidable (isPad z) := by unfold isPad; exact inferInstance
def buck (z : Int) : Int := if z < 64 then 64 else if z < 128 then 128 else if z < 256 then 256 else if z < 512 then 512 else if z < 1024 then 1024 else if z < 2048 then 2048 else 0
def i64in (z : Int) : Prop := -9223372036854775808 ≤ z ∧ z < 9223372036854775808
def padG (xs : List Value) : Value := .bool (decide (isPad (valI xs[0]?)))
def padS : Sx.Spec := pureS 101 [.one i64] [.one .bool] (fun xs => i64in (valI xs[0]?)) padG
def buckG (xs : List Value) : Value := .int .i64 (buck (valI xs[0]?))
def buckS : Sx.Spec := pureS 92 [.one i64] [.one i64] (fun _ => True) buckG
def padNd : Nd := .and (.imp (.lt (.wrap .i64 (.sub (.var 0) (.lit 1))) (.lit 0)) (.post [] (.sv (.one (.bool .ff))))) (.imp (.not (.lt (.wrap .i64 (.sub (.var 0) (.lit 1))) (.lit 0))) (.and (.imp (.lt (.wrap .i64 (.sub (.var 0) (.lit 1))) (.lit 64)) (.post [] (.sv (.one (.bool (.eq (.lit 64) (.var 0))))))) (.imp (.not (.lt (.wrap .i64 (.sub (.var 0) (.lit 1))) (.lit 64))) (.and (.imp (.lt (.wrap .i64 (.sub (.var 0) (.lit 1))) (.lit 128)) (.post [] (.sv (.one (.bool (.eq (.lit 128) (.var 0))))))) (.imp (.not (.lt (.wrap .i64 (.sub (.var 0) (.lit 1))) (.lit 128))) (.and (.imp (.lt (.wrap .i64 (.sub (.var 0) (.lit 1))) (.lit 256)) (.post [] (.sv (.one (.bool (.eq (.lit 256) (.var 0))))))) (.imp (.not (.lt (.wrap .i64 (.sub (.var 0) (.lit 1))) (.lit 256))) (.and (.imp (.lt (.wrap .i64 (.sub (.var 0) (.lit 1))) (.lit 512)) (.post [] (.sv (.one (.bool (.eq (.lit 512) (.var 0))))))) (.imp (.not (.lt (.wrap .i64 (.sub (.var 0) (.lit 1))) (.lit 512))) (.and (.imp (.lt (.wrap .i64 (.sub (.var 0) (.lit 1))) (.lit 1024)) (.post [] (.sv (.one (.bool (.eq (.lit 1024) (.var 0))))))) (.imp (.not (.lt (.wrap .i64 (.sub (.var 0) (.lit 1))) (.lit 1024))) (.and (.imp (.lt (.wrap .i64 (.sub (.var 0) (.lit 1))) (.lit 2048)) (.post [] (.sv (.one (.bool (.eq (.lit 2048) (.var 0))))))) (.imp (.not (.lt (.wrap .i64 (.sub (.var 0) (.lit 1))) (.lit 2048))) (.post [] (.sv (.one (.bool .ff)))))))))))))))))
def padW : Walk Tryd.prog [] 101 where
  Λ := noLoops
  args := (cpSVs 0 [.one i64]).map .sv
  mem := []
  nv := 1
  nd := padNd
  ok := by kernel_rfl
def buckNd : Nd := .ext (.alloc 1) (.and (.imp (.lt (.var 0) (.lit 64)) (.post [.dead] (.sv (.one (.int .i64 (.lit 64)))))) (.imp (.not (.lt (.var 0) (.lit 64))) (.and (.imp (.lt (.var 0) (.lit 128)) (.post [.dead] (.sv (.one (.int .i64 (.lit 128)))))) (.imp (.not (.lt (.var 0) (.lit 128))) (.and (.imp (.lt (.var 0) (.lit 256)) (.post [.dead] (.sv (.one (.int .i64 (.lit 256)))))) (.imp (.not (.lt (.var 0) (.lit 256))) (.and (.imp (.lt (.var 0) (.lit 512)) (.post [.dead] (.sv (.one (.int .i64 (.lit 512)))))) (.imp (.not (.lt (.var 0) (.lit 512))) (.and (.imp (.lt (.var 0) (.lit 1024)) (.post [.dead] (.sv (.one (.int .i64 (.lit 1024)))))) (.imp (.not (.lt (.var 0) (.lit 1024))) (.and (.imp (.lt (.var 0) (.lit 2048)) (.post [.dead] (.sv (.one (.int .i64 (.lit 2048)))))) (.imp (.not (.lt (.var 0) (.lit 2048))) (.post [.dead] (.sv (.one (.int .i64 (.lit 0)))))))))))))))))
def buckW : Walk Tryd.prog [] 92 where
  Λ := noLoops
  args := (cpSVs 0 [.one i64]).map .sv
  mem := []
  nv := 1
  nd := buckNd
  ok := by kernel_rfl
theorem wrap_pred {z : Int} (h : i64in z) : IntKind.i64.wrap (z - 1) = z - 1 ∨ IntKind.i64.wrap (z - 1) = 9223372036854775807 ∧ z = -9223372036854775808 := by
  unfold i64in at h
  by_cases h1 : z = -9223372036854775808
  · right
    subst h1
    exact ⟨by decide, rfl⟩
  · left
    exact IntWalk.i64_in _ (by omega)
theorem boolV {b : Bool} {p : Prop} {_ : Decidable p} (h : b = true ↔ p) : Value.bool b = .bool (decide p) := by
  congr 1
  rw [Bool.eq_iff_iff, decide_eq_true_eq]; exact h
theorem padS_ok : padS.OK Tryd.prog := by
  refine pure_of (Γ := []) (fun t ht => by cases ht) padW rfl rfl rfl (fun q _ _ => shape_bool _) (fun q hq hN => ⟨fun _ _ => True, fun _ _ => 0, ?_⟩)
  have hN : i64in (q.i 0) := hN
  have eG : padG (inVs [.one i64] q) = .bool (decide (isPad (q.i 0))) := rfl
  simp only [eG]
  show Nd.holds _ _ _ padNd
  unfold padNd
  simp only [Nd.holds, X.pre, X.rel, X.n, Src.ok, Src.len, Src.vals, true_and, and_true, if_true, Nat.mul_one, Nat.add_zero, Nat.reduceAdd, List.length_cons, List.length_nil, bT_tt, bT_ff, bT_bvar, bT_not, bT_and, bT_or, bT_ite, bT_lt, bT_le, bT_eq, bT_beq, bT_seq, bT_hB, bT_his, bT_hby, bT_hism, bT_hks, iev_lit, iev_var, iev_add, iev_sub, iev_mul, iev_wrap, iev_ite, iev_hI, iev_hP, iev_hmlen, sev_ite, sev_slit, sev_sof, sev_svar, TV.ev, SV.ev, CV.ev, List.map_cons, List.map_nil, Res.hl, cpTV, Cp.sv, Ck.cv, cpSVs, Cp.len, Ck.len, newHs_zero, newHs_one, roots_ne, bev_tt, bev_ff]
  have hw := wrap_pred hN
  generalize IntKind.i64.wrap (q.i 0 - 1) = y at hw ⊢
  have lf : ∀ {m : Int}, (m = q.i 0 ↔ isPad (q.i 0)) → Value.bool (bev q (.eq (.lit m) (.var 0))) = .bool (decide (isPad (q.i 0))) := fun {m} h => boolV (by rw [bT_eq, iev_lit, iev_var]; exact h)
  have ff : ¬ isPad (q.i 0) → Value.bool false = .bool (decide (isPad (q.i 0))) := fun h => boolV ⟨fun e => (by cases e), fun e => absurd e h⟩
  unfold isPad at lf ff ⊢
  exact ⟨fun h => ff (by omega), fun h0 => ⟨fun h => lf (by omega), fun h1 => ⟨fun h => lf (by omega), fun h2 => ⟨fun h => lf (by omega), fun h3 => ⟨fun h => lf (by omega), fun h4 => ⟨fun h => lf (by omega), fun h5 => ⟨fun h => lf (by omega), fun h6 => ff (by omega)⟩⟩⟩⟩⟩⟩⟩
theorem buckS_ok : buckS.OK Tryd.prog := by
  refine pure_of (Γ := []) (fun t ht => by cases ht) buckW rfl rfl rfl (fun q _ _ => shape_int _) (fun q hq hN => ⟨fun _ _ => True, fun _ _ => 0, ?_⟩)
  have eG : buckG (inVs [.one i64] q) = .int .i64 (buck (q.i 0)) := rfl
  simp only [eG]
  show Nd.holds _ _ _ buckNd
  unfold buckNd
  simp only [Nd.holds, X.pre, X.rel, X.n, Src.ok, Src.len, Src.vals, true_and, and_true, if_true, Nat.mul_one, Nat.add_zero, Nat.reduceAdd, List.length_cons, List.length_nil, bT_tt, bT_ff, bT_bvar, bT_not, bT_and, bT_or, bT_ite, bT_lt, bT_le, bT_eq, bT_beq, bT_seq, bT_hB, bT_his, bT_hby, bT_hism, bT_hks, iev_lit, iev_var, iev_add, iev_sub, iev_mul, iev_wrap, iev_ite, iev_hI, iev_hP, iev_hmlen, sev_ite, sev_slit, sev_sof, sev_svar, TV.ev, SV.ev, CV.ev, List.map_cons, List.map_nil, Res.hl, cpTV, Cp.sv, Ck.cv, cpSVs, Cp.len, Ck.len, newHs_zero, newHs_one, roots_ne]
  intro q1 g1 _
  rw [g1.i 0 (by omega)]
  unfold buck
  exact ⟨fun h => by rw [if_pos h], fun h0 => ⟨fun h => by rw [if_neg h0, if_pos h], fun h1 => ⟨fun h => by rw [if_neg h0, if_neg h1, if_pos h], fun h2 => ⟨fun h => by rw [if_neg h0, if_neg h1, if_neg h2, if_pos h], fun h3 => ⟨fun h => by rw [if_neg h0, if_neg h1, if_neg h2, if_neg h3, if_pos h], fun h4 => ⟨fun h => by rw [if_neg h0, if_neg h1, if_neg h2, if_neg h3, if_neg h4, if_pos h], fun h5 => by rw [if_neg h0, if_neg h1, if_neg h2, if_neg h3, if_neg h4, if_neg h5]⟩⟩⟩⟩⟩⟩
def zer (f : Nat → Int) : Nat → Nat → Prop
  | _, 0 => True
  | n, 1 => f n = 0
  | n, k + 2 => f n = 0 ∧ zer f (n + 1) (k + 1)
theorem zer_iff {f : Nat → Int} : ∀ (k n : Nat), zer f n k ↔ ∀ j, j < k → f (n + j) = 0
  | 0, n => ⟨fun _ j h => (by omega), fun _ => trivial⟩
  | 1, n => ⟨fun h j hj => (by cases j with
      | zero => exact h
      | succ j => omega), fun h => h 0 (by omega)⟩
  | k + 2, n => by
    show (f n = 0 ∧ zer f (n + 1) (k + 1)) ↔ _
    rw [zer_iff (k + 1) (n + 1)]
    constructor
    · rintro ⟨h0, h⟩ j hj
      cases j with
      | zero => exact h0
      | succ j => have := h j (by omega); rwa [show n + 1 + j = n + (j + 1) by omega] at this
    · exact fun h => ⟨h 0 (by omega), fun j hj => by have := h (j + 1) (by omega); rwa [show n + (j + 1) = n + 1 + j by omega] at this⟩
instance zerDec (f : Nat → Int) : ∀ (k n : Nat), Decidable (zer f n k)
  | 0, _ => isTrue trivial
  | 1, n => (inferInstance : Decidable (f n = 0))
  | k + 2, n => have := zerDec f (k + 1) (n + 1); (inferInstance : Decidable (f n = 0 ∧ zer f (n + 1) (k + 1)))
def placedP (l : List Value) : Prop := (1 ≤ cI l 0 ∧ cI l 0 ≤ 6) ∧ (1 ≤ cI l 1 ∧ cI l 1 ≤ 1048576) ∧ (0 ≤ cI l 34 ∧ cI l 34 ≤ 255) ∧ cI l 36 ≤ 1099511627776 ∧ cI l (54 + (cI l 0 - 1).toNat) = cI l 1 - 1 ∧ (cI l 54 ≤ 1048576 ∧ cI l 55 ≤ 1048576 ∧ cI l 56 ≤ 1048576 ∧ cI l 57 ≤ 1048576 ∧ cI l 58 ≤ 1048576 ∧ cI l 59 ≤ 1048576) ∧ (1 < cI l 1 ∨ zer (cI l) 2 32)
instance (l : List Value) : Decidable (placedP l) := by unfold placedP; exact inferInstance
def rowV (v : Value) : List Value := match v with
  | .agg a => a.toList
  | _ => []
def placedG (xs : List Value) : Value := .bool (decide (placedP (rowV (xs.getD 0 (.bool false)))))
def placedS : Sx.Spec := pureS 99 [.agg hk2] [.one .bool] (fun _ => True) placedG
def placedNd : Nd := .ext (.alloc 128) (.and (.imp (.lt (.var 0) (.lit 1)) (.post [.dead] (.sv (.one (.bool .ff))))) (.imp (.not (.lt (.var 0) (.lit 1))) (.and (.imp (.lt (.lit 6) (.var 0)) (.post [.dead] (.sv (.one (.bool .ff))))) (.imp (.not (.lt (.lit 6) (.var 0))) (.and (.imp (.lt (.var 1) (.lit 1)) (.post [.dead] (.sv (.one (.bool .ff))))) (.imp (.not (.lt (.var 1) (.lit 1))) (.and (.imp (.lt (.lit 1048576) (.var 1)) (.post [.dead] (.sv (.one (.bool .ff))))) (.imp (.not (.lt (.lit 1048576) (.var 1))) (.and (.imp (.lt (.var 34) (.lit 0)) (.post [.dead] (.sv (.one (.bool .ff))))) (.imp (.not (.lt (.var 34) (.lit 0))) (.and (.imp (.lt (.lit 255) (.var 34)) (.post [.dead] (.sv (.one (.bool .ff))))) (.imp (.not (.lt (.lit 255) (.var 34))) (.and (.imp (.lt (.lit 1099511627776) (.var 36)) (.post [.dead] (.sv (.one (.bool .ff))))) (.imp (.not (.lt (.lit 1099511627776) (.var 36))) (.and (.e (.le (.lit 0) (.wrap .i64 (.sub (.var 0) (.lit 1))))) (.and (.e (.lt (.wrap .i64 (.sub (.var 0) (.lit 1))) (.lit 6))) (.and (.imp (.not (.eq (.ite (.eq (.wrap .i64 (.sub (.var 0) (.lit 1))) (.lit 0)) (.var 57) (.ite (.eq (.wrap .i64 (.sub (.var 0) (.lit 1))) (.lit 1)) (.var 58) (.ite (.eq (.wrap .i64 (.sub (.var 0) (.lit 1))) (.lit 2)) (.var 59) (.ite (.eq (.wrap .i64 (.sub (.var 0) (.lit 1))) (.lit 3)) (.var 60) (.ite (.eq (.wrap .i64 (.sub (.var 0) (.lit 1))) (.lit 4)) (.var 61) (.var 62)))))) (.wrap .u64 (.sub (.var 1) (.lit 1))))) (.post [.dead] (.sv (.one (.bool .ff))))) (.imp (.eq (.ite (.eq (.wrap .i64 (.sub (.var 0) (.lit 1))) (.lit 0)) (.var 57) (.ite (.eq (.wrap .i64 (.sub (.var 0) (.lit 1))) (.lit 1)) (.var 58) (.ite (.eq (.wrap .i64 (.sub (.var 0) (.lit 1))) (.lit 2)) (.var 59) (.ite (.eq (.wrap .i64 (.sub (.var 0) (.lit 1))) (.lit 3)) (.var 60) (.ite (.eq (.wrap .i64 (.sub (.var 0) (.lit 1))) (.lit 4)) (.var 61) (.var 62)))))) (.wrap .u64 (.sub (.var 1) (.lit 1)))) (.and (.imp (.lt (.lit 1048576) (.var 57)) (.post [.dead] (.sv (.one (.bool .ff))))) (.imp (.not (.lt (.lit 1048576) (.var 57))) (.and (.imp (.lt (.lit 1048576) (.var 58)) (.post [.dead] (.sv (.one (.bool .ff))))) (.imp (.not (.lt (.lit 1048576) (.var 58))) (.and (.imp (.lt (.lit 1048576) (.var 59)) (.post [.dead] (.sv (.one (.bool .ff))))) (.imp (.not (.lt (.lit 1048576) (.var 59))) (.and (.imp (.lt (.lit 1048576) (.var 60)) (.post [.dead] (.sv (.one (.bool .ff))))) (.imp (.not (.lt (.lit 1048576) (.var 60))) (.and (.imp (.lt (.lit 1048576) (.var 61)) (.post [.dead] (.sv (.one (.bool .ff))))) (.imp (.not (.lt (.lit 1048576) (.var 61))) (.and (.imp (.lt (.lit 1048576) (.var 62)) (.post [.dead] (.sv (.one (.bool .ff))))) (.imp (.not (.lt (.lit 1048576) (.var 62))) (.and (.imp (.not (.lt (.lit 1) (.var 1))) (.post [.dead] (.sv (.one (.bool (.and (.eq (.var 2) (.lit 0)) (.and (.eq (.var 3) (.lit 0)) (.and (.eq (.var 4) (.lit 0)) (.and (.eq (.var 5) (.lit 0)) (.and (.eq (.var 6) (.lit 0)) (.and (.eq (.var 7) (.lit 0)) (.and (.eq (.var 8) (.lit 0)) (.and (.eq (.var 9) (.lit 0)) (.and (.eq (.var 10) (.lit 0)) (.and (.eq (.var 11) (.lit 0)) (.and (.eq (.var 12) (.lit 0)) (.and (.eq (.var 13) (.lit 0)) (.and (.eq (.var 14) (.lit 0)) (.and (.eq (.var 15) (.lit 0)) (.and (.eq (.var 16) (.lit 0)) (.and (.eq (.var 17) (.lit 0)) (.and (.eq (.var 18) (.lit 0)) (.and (.eq (.var 19) (.lit 0)) (.and (.eq (.var 20) (.lit 0)) (.and (.eq (.var 21) (.lit 0)) (.and (.eq (.var 22) (.lit 0)) (.and (.eq (.var 23) (.lit 0)) (.and (.eq (.var 24) (.lit 0)) (.and (.eq (.var 25) (.lit 0)) (.and (.eq (.var 26) (.lit 0)) (.and (.eq (.var 27) (.lit 0)) (.and (.eq (.var 28) (.lit 0)) (.and (.eq (.var 29) (.lit 0)) (.and (.eq (.var 30) (.lit 0)) (.and (.eq (.var 31) (.lit 0)) (.and (.eq (.var 32) (.lit 0)) (.eq (.var 33) (.lit 0)))))))))))))))))))))))))))))))))))))) (.imp (.lt (.lit 1) (.var 1)) (.post [.dead] (.sv (.one (.bool .tt))))))))))))))))))))))))))))))))))))
def placedW : Walk Tryd.prog [] 99 where
  Λ := noLoops
  args := (cpSVs 0 [.agg hk2]).map .sv
  mem := []
  nv := 128
  nd := placedNd
  ok := by kernel_rfl
def hrow (q : Env) (n : Nat) : List Value := (ckCVs n hk2).map (CV.ev q)
theorem know_ite (q : Env) (h : 1 ≤ q.i 0 ∧ q.i 0 ≤ 6) : cI (hrow q 0) (54 + (q.i 0 - 1).toNat) = if q.i 0 - 1 = 0 then q.i 57 else if q.i 0 - 1 = 1 then q.i 58 else if q.i 0 - 1 = 2 then q.i 59 else if q.i 0 - 1 = 3 then q.i 60 else if q.i 0 - 1 = 4 then q.i 61 else q.i 62 := by
  have : q.i 0 = 1 ∨ q.i 0 = 2 ∨ q.i 0 = 3 ∨ q.i 0 = 4 ∨ q.i 0 = 5 ∨ q.i 0 = 6 := by omega
  rcases this with e | e | e | e | e | e <;> rw [e] <;> rfl
theorem hrow_ag {q q1 : Env} (g : Agree 128 q q1) : hrow q1 0 = hrow q 0 := by
  have h := ev_ag (n := 0) (ks := hk2) g (Nat.le_of_ble_eq_true (by kernel_rfl))
  exact List.toArray_inj (Value.agg.inj h)
theorem placedS_ok : placedS.OK Tryd.prog := by
  refine pure_of (Γ := []) (fun t ht => by cases ht) placedW rfl rfl rfl (fun q _ _ => shape_bool _) (fun q hq hN => ⟨fun _ _ => True, fun _ _ => 0, ?_⟩)
  have eG : placedG (inVs [.agg hk2] q) = .bool (decide (placedP (hrow q 0))) := rfl
  simp only [eG]
  show Nd.holds _ _ _ placedNd
  unfold placedNd
  simp only [Nd.holds, X.pre, X.rel, X.n, Src.ok, Src.len, Src.vals, true_and, and_true, if_true, Nat.mul_one, Nat.add_zero, Nat.reduceAdd, List.length_cons, List.length_nil, bT_tt, bT_ff, bT_bvar, bT_not, bT_and, bT_or, bT_ite, bT_lt, bT_le, bT_eq, bT_beq, bT_seq, bT_hB, bT_his, bT_hby, bT_hism, bT_hks, iev_lit, iev_var, iev_add, iev_sub, iev_mul, iev_wrap, iev_ite, iev_hI, iev_hP, iev_hmlen, sev_ite, sev_slit, sev_sof, sev_svar, TV.ev, SV.ev, CV.ev, List.map_cons, List.map_nil, Res.hl, cpTV, Cp.sv, Ck.cv, cpSVs, Cp.len, Ck.len, newHs_zero, newHs_one, roots_ne, bev_tt, bev_ff]
  intro q1 g1 _
  rw [← hrow_ag g1]
  clear g1
  have eP : placedP (hrow q1 0) ↔ ((1 ≤ q1.i 0 ∧ q1.i 0 ≤ 6) ∧ (1 ≤ q1.i 1 ∧ q1.i 1 ≤ 1048576) ∧ (0 ≤ q1.i 34 ∧ q1.i 34 ≤ 255) ∧ q1.i 36 ≤ 1099511627776 ∧ cI (hrow q1 0) (54 + (q1.i 0 - 1).toNat) = q1.i 1 - 1 ∧ (q1.i 57 ≤ 1048576 ∧ q1.i 58 ≤ 1048576 ∧ q1.i 59 ≤ 1048576 ∧ q1.i 60 ≤ 1048576 ∧ q1.i 61 ≤ 1048576 ∧ q1.i 62 ≤ 1048576) ∧ (1 < q1.i 1 ∨ zer (cI (hrow q1 0)) 2 32)) := Iff.rfl
  have eK := know_ite q1
  have eZ : bev q1 (.and (.eq (.var 2) (.lit 0)) (.and (.eq (.var 3) (.lit 0)) (.and (.eq (.var 4) (.lit 0)) (.and (.eq (.var 5) (.lit 0)) (.and (.eq (.var 6) (.lit 0)) (.and (.eq (.var 7) (.lit 0)) (.and (.eq (.var 8) (.lit 0)) (.and (.eq (.var 9) (.lit 0)) (.and (.eq (.var 10) (.lit 0)) (.and (.eq (.var 11) (.lit 0)) (.and (.eq (.var 12) (.lit 0)) (.and (.eq (.var 13) (.lit 0)) (.and (.eq (.var 14) (.lit 0)) (.and (.eq (.var 15) (.lit 0)) (.and (.eq (.var 16) (.lit 0)) (.and (.eq (.var 17) (.lit 0)) (.and (.eq (.var 18) (.lit 0)) (.and (.eq (.var 19) (.lit 0)) (.and (.eq (.var 20) (.lit 0)) (.and (.eq (.var 21) (.lit 0)) (.and (.eq (.var 22) (.lit 0)) (.and (.eq (.var 23) (.lit 0)) (.and (.eq (.var 24) (.lit 0)) (.and (.eq (.var 25) (.lit 0)) (.and (.eq (.var 26) (.lit 0)) (.and (.eq (.var 27) (.lit 0)) (.and (.eq (.var 28) (.lit 0)) (.and (.eq (.var 29) (.lit 0)) (.and (.eq (.var 30) (.lit 0)) (.and (.eq (.var 31) (.lit 0)) (.and (.eq (.var 32) (.lit 0)) (.eq (.var 33) (.lit 0))))))))))))))))))))))))))))))))) = true ↔ zer (cI (hrow q1 0)) 2 32 := by
    simp only [bT_and, bT_eq, iev_var, iev_lit]
    exact Iff.rfl
  have ff : ¬ placedP (hrow q1 0) → Value.bool false = .bool (decide (placedP (hrow q1 0))) := fun h => boolV ⟨fun e => (by cases e), fun e => absurd e h⟩
  have tt : placedP (hrow q1 0) → Value.bool true = .bool (decide (placedP (hrow q1 0))) := fun h => boolV ⟨fun _ => h, fun _ => rfl⟩
  have zz : (zer (cI (hrow q1 0)) 2 32 ↔ placedP (hrow q1 0)) → Value.bool (bev q1 (.and (.eq (.var 2) (.lit 0)) (.and (.eq (.var 3) (.lit 0)) (.and (.eq (.var 4) (.lit 0)) (.and (.eq (.var 5) (.lit 0)) (.and (.eq (.var 6) (.lit 0)) (.and (.eq (.var 7) (.lit 0)) (.and (.eq (.var 8) (.lit 0)) (.and (.eq (.var 9) (.lit 0)) (.and (.eq (.var 10) (.lit 0)) (.and (.eq (.var 11) (.lit 0)) (.and (.eq (.var 12) (.lit 0)) (.and (.eq (.var 13) (.lit 0)) (.and (.eq (.var 14) (.lit 0)) (.and (.eq (.var 15) (.lit 0)) (.and (.eq (.var 16) (.lit 0)) (.and (.eq (.var 17) (.lit 0)) (.and (.eq (.var 18) (.lit 0)) (.and (.eq (.var 19) (.lit 0)) (.and (.eq (.var 20) (.lit 0)) (.and (.eq (.var 21) (.lit 0)) (.and (.eq (.var 22) (.lit 0)) (.and (.eq (.var 23) (.lit 0)) (.and (.eq (.var 24) (.lit 0)) (.and (.eq (.var 25) (.lit 0)) (.and (.eq (.var 26) (.lit 0)) (.and (.eq (.var 27) (.lit 0)) (.and (.eq (.var 28) (.lit 0)) (.and (.eq (.var 29) (.lit 0)) (.and (.eq (.var 30) (.lit 0)) (.and (.eq (.var 31) (.lit 0)) (.and (.eq (.var 32) (.lit 0)) (.eq (.var 33) (.lit 0)))))))))))))))))))))))))))))))))) = .bool (decide (placedP (hrow q1 0))) := fun h => boolV (eZ.trans h)
  generalize Value.bool (decide (placedP (hrow q1 0))) = V at ff tt zz ⊢
  rw [eP] at ff tt zz
  clear eP eZ
  refine ⟨fun h => ff (by omega), fun h0 => ⟨fun h => ff (by omega), fun h1 => ?_⟩⟩
  have eK := eK (by omega)
  have w0 : IntKind.i64.wrap (q1.i 0 - 1) = q1.i 0 - 1 := IntWalk.i64_in _ (by omega)
  rw [w0]
  rw [← eK]
  generalize cI (hrow q1 0) (54 + (q1.i 0 - 1).toNat) = K at ff tt zz ⊢
  generalize zer (cI (hrow q1 0)) 2 32 = Z at ff tt zz
  refine ⟨fun h => ff (by omega), fun h2 => ⟨fun h => ff (by omega), fun h3 => ?_⟩⟩
  have w1 : IntKind.u64.wrap (q1.i 1 - 1) = q1.i 1 - 1 := wu64 (by omega) (by omega)
  rw [w1]
  refine ⟨fun h => ff (by omega), fun h4 => ⟨fun h => ff (by omega), fun h5 => ⟨fun h => ff (by omega), fun h6 => ⟨by omega, by omega, fun h => ff (by omega), fun h7 => ?_⟩⟩⟩⟩
  refine ⟨fun h => ff (by omega), fun k0 => ⟨fun h => ff (by omega), fun k1 => ⟨fun h => ff (by omega), fun k2 => ⟨fun h => ff (by omega), fun k3 => ⟨fun h => ff (by omega), fun k4 => ⟨fun h => ff (by omega), fun k5 => ⟨fun h => zz ⟨fun z => ?_, fun z => ?_⟩, fun h => tt ?_⟩⟩⟩⟩⟩⟩⟩
  · exact ⟨by omega, by omega, by omega, by omega, h7, by omega, Or.inr z⟩
  · rcases z.2.2.2.2.2.2 with z | z
    · omega
    · exact z
  · exact ⟨by omega, by omega, by omega, by omega, h7, by omega, Or.inl h⟩
end Go.Proofs.YtomdimlnggpgbaaDoor
namespace Go.Proofs.YtomdimlnggpgbaaDoor
open Go Go.Sx Go.Pk
def rngV : Value → Prop
  | .int .u8 z => 0 ≤ z ∧ z < 256
  | .int .u64 z => 0 ≤ z ∧ z < 18446744073709551616
  | .int .i64 z => i64in z
  | _ => True
structure Hd where
  c : List Value
  t : List (List Int)
def Hd.Form (h : Hd) : Prop := placedP h.c ∧ h.t.length ≤ 8 ∧ SortedT h.t ∧ isPad (cI h.c 92 - 16) ∧ (cB h.c 35 = true → h.t = [] ∧ zer (cI h.c) 37 16)
structure IsHd (R : Hl) (row : List Value) (h : Hd) : Prop where
  ok : rowOK row hkd
  rng : ∀ v ∈ row, rngV v
  core : h.c = row.set 53 (.bool false)
  tok : RdRows R (row.getD 53 (.bool false)) tkd (h.t.map bys)
  byte : toksIn h.t
theorem rdRows_mono {R R' : Hl} {v : Value} {ks : List Kd} {rows : List (List Value)} (h : RdRows R v ks rows) (hl : R.le R') : RdRows R' v ks rows := by
  obtain ⟨x, y, c, e, hy, h⟩ := h
  refine ⟨x, y, c, e, hy, h.imp id fun ⟨hx, h⟩ => ⟨hx, fun i row hr => ⟨(h i row hr).1, fun j u hu => ?_⟩⟩⟩
  have hc := (h i row hr).2 j u hu
  unfold Hl.cell at hc ⊢
  cases hR : R x.toNat with
  | none => rw [hR] at hc; cases hc
  | some o => rw [hl _ _ hR]; rw [hR] at hc; exact hc
theorem IsHd.mono {R R' : Hl} {row : List Value} {h : Hd} (x : IsHd R row h) (hl : R.le R') : IsHd R' row h := ⟨x.ok, x.rng, x.core, rdRows_mono x.tok hl, x.byte⟩
theorem bys_mapInj : ∀ {a b : List (List Int)}, a.map bys = b.map bys → a = b
  | [], [], _ => rfl
  | [], _ :: _, h => by cases h
  | _ :: _, [], h => by cases h
  | u :: a, v :: b, h => by
    simp only [List.map_cons, List.cons.injEq] at h
    rw [bys_inj h.1, bys_mapInj h.2]
theorem IsHd.uniq {R : Hl} {row : List Value} {h h' : Hd} (x : IsHd R row h) (y : IsHd R row h') : h = h' := by
  obtain ⟨c, t⟩ := h
  obtain ⟨c', t'⟩ := h'
  have e1 : c = c' := x.core.trans y.core.symm
  have e3 : t = t' := bys_mapInj (x.tok.uniq y.tok)
  rw [e1, e3]
theorem core_I {row : List Value} {k : Nat} (h : k ≠ 53) : cI (row.set 53 (.bool false)) k = cI row k := by
  unfold cI; rw [List.getElem?_set_ne (by omega)]
theorem core_B {row : List Value} {k : Nat} (h : k ≠ 53) : cB (row.set 53 (.bool false)) k = cB row k := by
  unfold cB; rw [List.getElem?_set_ne (by omega)]
theorem IsHd.I {R : Hl} {row : List Value} {h : Hd} (x : IsHd R row h) {k : Nat} (hk : k ≠ 53) : cI h.c k = cI row k := by rw [x.core, core_I hk]
theorem IsHd.B {R : Hl} {row : List Value} {h : Hd} (x : IsHd R row h) {k : Nat} (hk : k ≠ 53) : cB h.c k = cB row k := by rw [x.core, core_B hk]
theorem zer_congr {f g : Nat → Int} {n k : Nat} (h : ∀ j, j < k → f (n + j) = g (n + j)) : zer f n k ↔ zer g n k := by
  rw [zer_iff, zer_iff]
  exact ⟨fun hf j hj => by rw [← h j hj]; exact hf j hj, fun hg j hj => by rw [h j hj]; exact hg j hj⟩
theorem IsHd.form {R : Hl} {row : List Value} {h : Hd} (x : IsHd R row h) : h.Form ↔ (placedP row ∧ h.t.length ≤ 8 ∧ SortedT h.t ∧ isPad (cI row 92 - 16) ∧ (cB row 35 = true → h.t = [] ∧ zer (cI row) 37 16)) := by
  have e1 : placedP h.c ↔ placedP row := by
    unfold placedP
    have hz : zer (cI h.c) 2 32 ↔ zer (cI row) 2 32 := zer_congr fun j hj => x.I (by omega)
    have hk : cI h.c (54 + (cI row 0 - 1).toNat) = cI row (54 + (cI row 0 - 1).toNat) := x.I (by omega)
    rw [x.I (k := 0) (by decide), x.I (k := 1) (by decide), x.I (k := 34) (by decide), x.I (k := 36) (by decide), x.I (k := 54) (by decide), x.I (k := 55) (by decide), x.I (k := 56) (by decide), x.I (k := 57) (by decide), x.I (k := 58) (by decide), x.I (k := 59) (by decide), hz, hk]
  have e2 : zer (cI h.c) 37 16 ↔ zer (cI row) 37 16 := zer_congr fun j hj => x.I (by omega)
  unfold Hd.Form
  rw [e1, e2, x.I (k := 92) (by decide), x.B (k := 35) (by decide)]
theorem hdr_env {R : Hl} {row : List Value} (h : rowOK row hkd) : ∃ q : Env, row = hrow q 0 ∧ q.h 130 = R ∧ ckNormsW 0 hk2 q ∧ 0 ≤ q.i 54 ∧ 0 ≤ q.i 55 ∧ 0 ≤ q.i 56 := by
  obtain ⟨q, _, hn, e⟩ := row_rep hk2 0 row ⟨fun _ => 0, fun _ => false, fun _ => .empty, fun _ => .tuple #[], fun _ => Hl.none⟩ h
  have hs : ∀ (a b : List Ck) (n : Nat), ckNormsW n (a ++ b) q → ckNormsW (n + ckLen a) b q := by
    intro a
    induction a with
    | nil => intro b n h; simpa [ckLen] using h
    | cons k a ih =>
      intro b n h
      have := ih b (n + k.len) h.2
      rw [show n + k.len + ckLen a = n + ckLen (k :: a) by simp [ckLen]; omega] at this
      exact this
  have hn0 := hn
  have hn : ckNormsW 0 (hk2.take 53 ++ (.sl :: hk2.drop 54)) q := hn
  have hs := (hs (hk2.take 53) (.sl :: hk2.drop 54) 0 hn).1
  exact ⟨⟨q.i, q.b, q.s, q.v, fun k => if k = 130 then R else Hl.none⟩, e.symm, rfl, hn0, hs.2.1, hs.2.2.1, hs.2.2.2⟩
open Classical in
noncomputable def formS (f : FuncId) : Sx.Spec where
  fn := f
  own := []
  rd := [10053]
  res := [.one .bool]
  pre := fun xs Hs Rs => ∃ row R h, xs = [.agg row.toArray] ∧ Rs = [R] ∧ IsHd R row h
  post := fun xs Hs Rs v Hs' F => ∃ row R h, xs = [.agg row.toArray] ∧ Rs = [R] ∧ IsHd R row h ∧ v = .bool (decide h.Form)
noncomputable def frmΓ : List Sx.Spec := [sortS 100, sortS 91, padS, buckS, placedS]
theorem frmΓ_ok : ∀ t ∈ frmΓ, t.OK Tryd.prog := fun t ht => by
  simp only [frmΓ, List.mem_cons, List.mem_nil_iff, or_false] at ht
  rcases ht with rfl | rfl | rfl | rfl | rfl
  · exact kSortS_ok
  · exact rSortS_ok
  · exact padS_ok
  · exact buckS_ok
  · exact placedS_ok
theorem fg0 : frmΓ[0]? = some (sortS 100) := rfl
theorem fg1 : frmΓ[1]? = some (sortS 91) := rfl
theorem fg2 : frmΓ[2]? = some padS := rfl
theorem fg3 : frmΓ[3]? = some buckS := rfl
theorem fg4 : frmΓ[4]? = some placedS := rfl
theorem fr0 (f : FuncId) : (sortS f).res = [.one .bool] := rfl
theorem fr2 : padS.res = [.one .bool] := rfl
theorem fr3 : buckS.res = [.one (.int .i64)] := rfl
theorem fr4 : placedS.res = [.one .bool] := rfl
def eFormNd : Nd := .ext (.alloc 131) (.and (.pre (.call 4 132 [.sv (.agg (ckCVs 0 hk2))] [] [])) (.ext (.call 4 132 [.sv (.agg (ckCVs 0 hk2))] [] []) (.and (.imp (.bvar 132) (.and (.e (.le (.lit 0) (.var 55))) (.and (.imp (.not (.lt (.lit 8) (.var 55))) (.and (.pre (.call 0 133 [.sv (.one (.sl (.var 53) (.var 54) (.var 55) (.var 56)))] [] [.ro 130 [.var 53] false])) (.ext (.call 0 133 [.sv (.one (.sl (.var 53) (.var 54) (.var 55) (.var 56)))] [] [.ro 130 [.var 53] false]) (.and (.imp (.bvar 133) (.and (.pre (.call 2 134 [.sv (.one (.int .i64 (.wrap .i64 (.sub (.var 95) (.lit 16)))))] [] [])) (.ext (.call 2 134 [.sv (.one (.int .i64 (.wrap .i64 (.sub (.var 95) (.lit 16)))))] [] []) (.and (.imp (.not (.bvar 134)) (.post [.ro 130 [.var 53] false, .dead] (.sv (.one (.bool .ff))))) (.imp (.bvar 134) (.and (.imp (.bvar 35) (.and (.imp (.eq (.var 55) (.lit 0)) (.post [.ro 130 [.var 53] false, .dead] (.sv (.one (.bool (.and (.eq (.var 37) (.lit 0)) (.and (.eq (.var 38) (.lit 0)) (.and (.eq (.var 39) (.lit 0)) (.and (.eq (.var 40) (.lit 0)) (.and (.eq (.var 41) (.lit 0)) (.and (.eq (.var 42) (.lit 0)) (.and (.eq (.var 43) (.lit 0)) (.and (.eq (.var 44) (.lit 0)) (.and (.eq (.var 45) (.lit 0)) (.and (.eq (.var 46) (.lit 0)) (.and (.eq (.var 47) (.lit 0)) (.and (.eq (.var 48) (.lit 0)) (.and (.eq (.var 49) (.lit 0)) (.and (.eq (.var 50) (.lit 0)) (.and (.eq (.var 51) (.lit 0)) (.eq (.var 52) (.lit 0)))))))))))))))))))))) (.imp (.not (.eq (.var 55) (.lit 0))) (.post [.ro 130 [.var 53] false, .dead] (.sv (.one (.bool .ff))))))) (.imp (.not (.bvar 35)) (.post [.ro 130 [.var 53] false, .dead] (.sv (.one (.bool .tt))))))))))) (.imp (.not (.bvar 133)) (.post [.ro 130 [.var 53] false, .dead] (.sv (.one (.bool .ff))))))))) (.imp (.lt (.lit 8) (.var 55)) (.post [.ro 130 [.var 53] false, .dead] (.sv (.one (.bool .ff)))))))) (.imp (.not (.bvar 132)) (.post [.ro 130 [.var 53] false, .dead] (.sv (.one (.bool .ff))))))))
noncomputable def eFormW : Walk Tryd.prog frmΓ 65 where
  Λ := noLoops
  args := (cpSVs 0 [.agg hk2]).map .sv
  mem := [.ro 130 [.var 53] false]
  nv := 131
  nd := eFormNd
  ok := by kernel_rfl
theorem hkl : 0 + ckLen hk2 ≤ 128 := Nat.le_of_ble_eq_true (by kernel_rfl)
theorem rd_len {R : Hl} {p : Option Addr} {n c : Nat} {ks : List Kd} {T : List (List Int)} (h : RdRows R (.slice p n c) ks (T.map bys)) : n = T.length := by
  obtain ⟨x, y, c', e, _⟩ := h
  simp only [Value.slice.injEq, List.length_map] at e
  exact e.2.1
theorem wrap_in (z : Int) : i64in (IntKind.i64.wrap z) := by
  unfold i64in
  rw [IntKind.wrap_i64]; omega
theorem pad_wrap {z : Int} (h : i64in z) : isPad (IntKind.i64.wrap (z - 16)) ↔ isPad (z - 16) := by
  unfold i64in at h
  unfold isPad
  rw [IntKind.wrap_i64]; omega
theorem isPad_in {z : Int} (h : isPad (z - 16)) : 80 ≤ z ∧ z ≤ 2064 := by
  unfold isPad at h; omega
theorem buck_pad {z : Int} (h1 : 80 ≤ z) (h2 : z ≤ 2064) : buck (IntKind.i64.wrap (z - 17)) = IntKind.i64.wrap (z - 16) ↔ isPad (z - 16) := by
  rw [IntWalk.i64_in (z - 17) (by omega), IntWalk.i64_in (z - 16) (by omega)]
  unfold buck isPad
  repeat' split
  all_goals omega
theorem as_int (P : Prop) : ∃ z : Int, P ↔ z = 1 := by
  by_cases h : P
  · exact ⟨1, fun _ => rfl, fun _ => h⟩
  · exact ⟨0, fun x => absurd x h, fun x => absurd x (by decide)⟩
open Classical in
theorem form_post {f : FuncId} {row : List Value} {R : Hl} {h : Hd} (hx : IsHd R row h) {q : Env} {e : E} (hb : bev q e = true ↔ h.Form) {mem : Mem} : postOf (formS f) [.agg row.toArray] [] [R] q mem (.sv (.one (.bool e))) := by
  intro _
  exact ⟨[], [], rfl, rfl, ⟨⟨fun _ => 0, fun _ => bev q e, fun _ => .empty, fun _ => .tuple #[], fun _ => Hl.none⟩, rfl, trivial, trivial⟩, _, R, h, rfl, rfl, hx, boolV hb⟩
open Classical in
theorem sort_post {f : FuncId} {u v : Value} {R : Hl} {T : List (List Int)} {Hs K : List Hl} {F : Hl} (h : RdRows R u tkd (T.map bys)) (hp : (sortS f).post [u] Hs [R] v K F) : v = .bool (decide (SortedT T)) := by
  obtain ⟨u', R', T', e1, e2, hR, hv⟩ := hp
  simp only [List.cons.injEq, and_true] at e1 e2
  subst e1 e2
  rw [bys_mapInj (h.uniq hR)]; exact hv
open Classical in
theorem eFormS_ok : (formS 65).OK Tryd.prog := by
  refine Spec.of_fn (Γ := frmΓ) frmΓ_ok ?_
  rintro xs Hs Rs hl1 hl2 ⟨row, R, h, rfl, rfl, hx⟩
  have e0 : Hs = [] := List.length_eq_zero_iff.1 hl1
  subst e0
  obtain ⟨ρ, rfl, w130, hnw, n54, n55, n56⟩ := hdr_env (R := R) hx.ok
  refine ⟨eFormW, ρ, fun _ _ => True, fun _ _ => 0, ?_, ⟨?_, ?_, ?_, ?_⟩, (fun _ h => nomatch h), ?_⟩
  · rfl
  · intro r hr ho; simp [eFormW] at hr; subst hr; cases ho
  · intro r hr ho; simp [eFormW] at hr; subst hr; exact ⟨R, by simp, by show (ρ.h 130).le R; rw [w130]; exact Hl.le_refl _⟩
  · simp [eFormW]
  · intro r hr; simp [eFormW] at hr; subst hr; trivial
  · show Nd.holds _ _ _ eFormNd
    unfold eFormNd
    simp only [Nd.holds, X.pre, X.rel, X.n, Src.ok, Src.len, Src.vals, true_and, and_true, if_true, Nat.mul_one, Nat.add_zero, Nat.reduceAdd, List.length_cons, List.length_nil, bT_tt, bT_ff, bT_bvar, bT_not, bT_and, bT_or, bT_ite, bT_lt, bT_le, bT_eq, bT_beq, bT_seq, bT_hB, bT_his, bT_hby, bT_hism, bT_hks, iev_lit, iev_var, iev_add, iev_sub, iev_mul, iev_wrap, iev_ite, iev_hI, iev_hP, iev_hmlen, sev_ite, sev_slit, sev_sof, sev_svar, TV.ev, SV.ev, CV.ev, List.map_cons, List.map_nil, Res.hl, cpTV, Cp.sv, Ck.cv, cpSVs, Cp.len, Ck.len, newHs_zero, newHs_one, roots_ne, fg0, fr0, fg2, fr2, fg4, fr4, sc2]
    have hF := hx.form
    have hT := hx.tok
    have hT : RdRows R (.slice (slP (ρ.i 53) (ρ.i 54)) (ρ.i 55).toNat (ρ.i 56).toNat) tkd (h.t.map bys) := hT
    have hlen : (ρ.i 55).toNat = h.t.length := rd_len hT
    have h92 : cI (hrow ρ 0) 92 = ρ.i 95 := rfl
    have h35 : cB (hrow ρ 0) 35 = ρ.b 35 := rfl
    have h92in : i64in (ρ.i 95) := hx.rng (.int .i64 (ρ.i 95)) (List.mem_of_getElem? (i := 92) rfl)
    rw [h92, h35] at hF
    intro q1 g1 _
    have hr1 : hrow q1 0 = hrow ρ 0 := hrow_ag (g1.mono (by omega))
    refine ⟨⟨⟨q1, ⟨ckNormsW_agree (g1.mono (by omega)) hk2 0 hkl hnw, trivial⟩, rfl⟩, trivial⟩, fun q2 g2 ⟨F2, hp2, _⟩ => ?_⟩
    have hp2 : Value.bool (q2.b 132) = .bool (decide (placedP (hrow q1 0))) := hp2
    rw [hr1] at hp2
    simp only [Value.bool.injEq] at hp2
    rw [hp2, decide_eq_true_eq]
    have G2 : Agree 131 ρ q2 := g1.trans (g2.mono (by omega))
    rw [G2.i 55 (by omega), G2.i 53 (by omega), G2.i 54 (by omega), G2.i 56 (by omega), G2.h 130 (by omega), w130]
    have ff : ∀ {q : Env} {mem : Mem}, ¬ h.Form → postOf (formS 65) [.agg (hrow ρ 0).toArray] [] [R] q mem (.sv (.one (.bool .ff))) := fun hf => form_post hx ⟨fun e => (by rw [bev_ff] at e; cases e), fun e => absurd e hf⟩
    refine ⟨fun hpl => ⟨n55, fun h8 => ⟨⟨_, R, h.t, rfl, rfl, hT, hx.byte⟩, fun q3 g3 ⟨F3, hp3, _⟩ => ?_⟩, fun h8 => ff fun hf => ?_⟩, fun hpl => ff fun hf => hpl (hF.1 hf).1⟩
    · have hs := sort_post hT hp3
      have hs : q3.b 133 = decide (SortedT h.t) := by simpa [bev_bvar] using hs
      rw [hs, decide_eq_true_eq]
      have G3 : Agree 131 ρ q3 := G2.trans (g3.mono (by omega))
      rw [G3.i 95 (by omega)]
      refine ⟨fun hso => ⟨⟨⟨envI [IntKind.i64.wrap (ρ.i 95 - 16)] false [], ⟨trivial, trivial⟩, rfl⟩, wrap_in _⟩, fun q4 g4 ⟨F4, hp4, _⟩ => ?_⟩, fun hso => ff fun hf => hso (hF.1 hf).2.2.1⟩
      have hp4 : Value.bool (q4.b 134) = .bool (decide (isPad (IntKind.i64.wrap (ρ.i 95 - 16)))) := hp4
      simp only [Value.bool.injEq] at hp4
      rw [hp4, decide_eq_true_eq, pad_wrap h92in]
      have G4 : Agree 131 ρ q4 := G3.trans (g4.mono (by omega))
      rw [G4.b 35 (by omega), G4.i 55 (by omega)]
      refine ⟨fun hpd => ff fun hf => hpd (hF.1 hf).2.2.2.1, fun hpd => ⟨fun hc => ⟨fun hz => form_post hx ?_, fun hz => ff fun hf => ?_⟩, fun hc => form_post hx ?_⟩⟩
      · have eZ : bev q4 (.and (.eq (.var 37) (.lit 0)) (.and (.eq (.var 38) (.lit 0)) (.and (.eq (.var 39) (.lit 0)) (.and (.eq (.var 40) (.lit 0)) (.and (.eq (.var 41) (.lit 0)) (.and (.eq (.var 42) (.lit 0)) (.and (.eq (.var 43) (.lit 0)) (.and (.eq (.var 44) (.lit 0)) (.and (.eq (.var 45) (.lit 0)) (.and (.eq (.var 46) (.lit 0)) (.and (.eq (.var 47) (.lit 0)) (.and (.eq (.var 48) (.lit 0)) (.and (.eq (.var 49) (.lit 0)) (.and (.eq (.var 50) (.lit 0)) (.and (.eq (.var 51) (.lit 0)) (.eq (.var 52) (.lit 0))))))))))))))))) = true ↔ zer (cI (hrow q4 0)) 37 16 := by
          simp only [bT_and, bT_eq, iev_var, iev_lit]
          exact Iff.rfl
        rw [eZ, hrow_ag (G4.mono (by omega)), hF]
        refine ⟨fun hzz => ⟨hpl, by omega, hso, hpd, fun _ => ⟨List.length_eq_zero_iff.1 (by omega), hzz⟩⟩, fun hf => (hf.2.2.2.2 hc).2⟩
      · have := ((hF.1 hf).2.2.2.2 hc).1
        rw [this] at hlen
        exact hz (by simpa using (show ρ.i 55 = 0 by simp at hlen; omega))
      · rw [bev_tt, hF]
        exact ⟨fun _ => ⟨hpl, by omega, hso, hpd, fun h => absurd h hc⟩, fun _ => rfl⟩
    · have := (hF.1 hf).2.1
      omega
end Go.Proofs.YtomdimlnggpgbaaDoor
namespace Go.Proofs.YtomdimlnggpgbaaDoor
open Go Go.Sx Go.Pk
def rFormNd : Nd := .ext (.alloc 131) (.and (.imp (.not (.lt (.var 0) (.lit 1))) (.and (.imp (.not (.lt (.lit 6) (.var 0))) (.and (.imp (.not (.lt (.var 1) (.lit 1))) (.and (.imp (.not (.lt (.lit 1048576) (.var 1))) (.and (.imp (.not (.lt (.var 34) (.lit 0))) (.and (.imp (.not (.lt (.lit 255) (.var 34))) (.and (.imp (.not (.lt (.lit 1099511627776) (.var 36))) (.and (.e (.le (.lit 0) (.var 55))) (.and (.imp (.not (.lt (.lit 8) (.var 55))) (.and (.pre (.call 1 132 [.sv (.one (.sl (.var 53) (.var 54) (.var 55) (.var 56)))] [] [.ro 130 [.var 53] false])) (.ext (.call 1 132 [.sv (.one (.sl (.var 53) (.var 54) (.var 55) (.var 56)))] [] [.ro 130 [.var 53] false]) (.and (.imp (.not (.bvar 132)) (.post [.ro 130 [.var 53] false, .dead] (.sv (.one (.bool .ff))))) (.imp (.bvar 132) (.and (.imp (.lt (.lit 1048576) (.var 57)) (.post [.ro 130 [.var 53] false, .dead] (.sv (.one (.bool .ff))))) (.imp (.not (.lt (.lit 1048576) (.var 57))) (.and (.imp (.lt (.lit 1048576) (.var 58)) (.post [.ro 130 [.var 53] false, .dead] (.sv (.one (.bool .ff))))) (.imp (.not (.lt (.lit 1048576) (.var 58))) (.and (.imp (.lt (.lit 1048576) (.var 59)) (.post [.ro 130 [.var 53] false, .dead] (.sv (.one (.bool .ff))))) (.imp (.not (.lt (.lit 1048576) (.var 59))) (.and (.imp (.lt (.lit 1048576) (.var 60)) (.post [.ro 130 [.var 53] false, .dead] (.sv (.one (.bool .ff))))) (.imp (.not (.lt (.lit 1048576) (.var 60))) (.and (.imp (.lt (.lit 1048576) (.var 61)) (.post [.ro 130 [.var 53] false, .dead] (.sv (.one (.bool .ff))))) (.imp (.not (.lt (.lit 1048576) (.var 61))) (.and (.imp (.lt (.lit 1048576) (.var 62)) (.post [.ro 130 [.var 53] false, .dead] (.sv (.one (.bool .ff))))) (.imp (.not (.lt (.lit 1048576) (.var 62))) (.and (.imp (.le (.lit 80) (.var 95)) (.and (.imp (.le (.var 95) (.lit 2064)) (.and (.pre (.call 3 133 [.sv (.one (.int .i64 (.wrap .i64 (.sub (.var 95) (.lit 17)))))] [] [])) (.ext (.call 3 133 [.sv (.one (.int .i64 (.wrap .i64 (.sub (.var 95) (.lit 17)))))] [] []) (.and (.imp (.not (.lt (.lit 1) (.var 1))) (.and (.imp (.bvar 35) (.and (.imp (.eq (.var 55) (.lit 0)) (.and (.imp (.eq (.var 133) (.wrap .i64 (.sub (.var 95) (.lit 16)))) (.and (.imp (.and (.eq (.var 2) (.lit 0)) (.and (.eq (.var 3) (.lit 0)) (.and (.eq (.var 4) (.lit 0)) (.and (.eq (.var 5) (.lit 0)) (.and (.eq (.var 6) (.lit 0)) (.and (.eq (.var 7) (.lit 0)) (.and (.eq (.var 8) (.lit 0)) (.and (.eq (.var 9) (.lit 0)) (.and (.eq (.var 10) (.lit 0)) (.and (.eq (.var 11) (.lit 0)) (.and (.eq (.var 12) (.lit 0)) (.and (.eq (.var 13) (.lit 0)) (.and (.eq (.var 14) (.lit 0)) (.and (.eq (.var 15) (.lit 0)) (.and (.eq (.var 16) (.lit 0)) (.and (.eq (.var 17) (.lit 0)) (.and (.eq (.var 18) (.lit 0)) (.and (.eq (.var 19) (.lit 0)) (.and (.eq (.var 20) (.lit 0)) (.and (.eq (.var 21) (.lit 0)) (.and (.eq (.var 22) (.lit 0)) (.and (.eq (.var 23) (.lit 0)) (.and (.eq (.var 24) (.lit 0)) (.and (.eq (.var 25) (.lit 0)) (.and (.eq (.var 26) (.lit 0)) (.and (.eq (.var 27) (.lit 0)) (.and (.eq (.var 28) (.lit 0)) (.and (.eq (.var 29) (.lit 0)) (.and (.eq (.var 30) (.lit 0)) (.and (.eq (.var 31) (.lit 0)) (.and (.eq (.var 32) (.lit 0)) (.eq (.var 33) (.lit 0))))))))))))))))))))))))))))))))) (.and (.imp (.and (.eq (.var 37) (.lit 0)) (.and (.eq (.var 38) (.lit 0)) (.and (.eq (.var 39) (.lit 0)) (.and (.eq (.var 40) (.lit 0)) (.and (.eq (.var 41) (.lit 0)) (.and (.eq (.var 42) (.lit 0)) (.and (.eq (.var 43) (.lit 0)) (.and (.eq (.var 44) (.lit 0)) (.and (.eq (.var 45) (.lit 0)) (.and (.eq (.var 46) (.lit 0)) (.and (.eq (.var 47) (.lit 0)) (.and (.eq (.var 48) (.lit 0)) (.and (.eq (.var 49) (.lit 0)) (.and (.eq (.var 50) (.lit 0)) (.and (.eq (.var 51) (.lit 0)) (.eq (.var 52) (.lit 0))))))))))))))))) (.and (.e (.le (.lit 0) (.wrap .i64 (.sub (.var 0) (.lit 1))))) (.and (.e (.lt (.wrap .i64 (.sub (.var 0) (.lit 1))) (.lit 6))) (.post [.ro 130 [.var 53] false, .dead] (.sv (.one (.bool (.eq (.ite (.eq (.wrap .i64 (.sub (.var 0) (.lit 1))) (.lit 0)) (.var 57) (.ite (.eq (.wrap .i64 (.sub (.var 0) (.lit 1))) (.lit 1)) (.var 58) (.ite (.eq (.wrap .i64 (.sub (.var 0) (.lit 1))) (.lit 2)) (.var 59) (.ite (.eq (.wrap .i64 (.sub (.var 0) (.lit 1))) (.lit 3)) (.var 60) (.ite (.eq (.wrap .i64 (.sub (.var 0) (.lit 1))) (.lit 4)) (.var 61) (.var 62)))))) (.wrap .u64 (.sub (.var 1) (.lit 1))))))))))) (.imp (.not (.and (.eq (.var 37) (.lit 0)) (.and (.eq (.var 38) (.lit 0)) (.and (.eq (.var 39) (.lit 0)) (.and (.eq (.var 40) (.lit 0)) (.and (.eq (.var 41) (.lit 0)) (.and (.eq (.var 42) (.lit 0)) (.and (.eq (.var 43) (.lit 0)) (.and (.eq (.var 44) (.lit 0)) (.and (.eq (.var 45) (.lit 0)) (.and (.eq (.var 46) (.lit 0)) (.and (.eq (.var 47) (.lit 0)) (.and (.eq (.var 48) (.lit 0)) (.and (.eq (.var 49) (.lit 0)) (.and (.eq (.var 50) (.lit 0)) (.and (.eq (.var 51) (.lit 0)) (.eq (.var 52) (.lit 0)))))))))))))))))) (.post [.ro 130 [.var 53] false, .dead] (.sv (.one (.bool .ff))))))) (.imp (.not (.and (.eq (.var 2) (.lit 0)) (.and (.eq (.var 3) (.lit 0)) (.and (.eq (.var 4) (.lit 0)) (.and (.eq (.var 5) (.lit 0)) (.and (.eq (.var 6) (.lit 0)) (.and (.eq (.var 7) (.lit 0)) (.and (.eq (.var 8) (.lit 0)) (.and (.eq (.var 9) (.lit 0)) (.and (.eq (.var 10) (.lit 0)) (.and (.eq (.var 11) (.lit 0)) (.and (.eq (.var 12) (.lit 0)) (.and (.eq (.var 13) (.lit 0)) (.and (.eq (.var 14) (.lit 0)) (.and (.eq (.var 15) (.lit 0)) (.and (.eq (.var 16) (.lit 0)) (.and (.eq (.var 17) (.lit 0)) (.and (.eq (.var 18) (.lit 0)) (.and (.eq (.var 19) (.lit 0)) (.and (.eq (.var 20) (.lit 0)) (.and (.eq (.var 21) (.lit 0)) (.and (.eq (.var 22) (.lit 0)) (.and (.eq (.var 23) (.lit 0)) (.and (.eq (.var 24) (.lit 0)) (.and (.eq (.var 25) (.lit 0)) (.and (.eq (.var 26) (.lit 0)) (.and (.eq (.var 27) (.lit 0)) (.and (.eq (.var 28) (.lit 0)) (.and (.eq (.var 29) (.lit 0)) (.and (.eq (.var 30) (.lit 0)) (.and (.eq (.var 31) (.lit 0)) (.and (.eq (.var 32) (.lit 0)) (.eq (.var 33) (.lit 0)))))))))))))))))))))))))))))))))) (.post [.ro 130 [.var 53] false, .dead] (.sv (.one (.bool .ff))))))) (.imp (.not (.eq (.var 133) (.wrap .i64 (.sub (.var 95) (.lit 16))))) (.post [.ro 130 [.var 53] false, .dead] (.sv (.one (.bool .ff))))))) (.imp (.not (.eq (.var 55) (.lit 0))) (.and (.imp (.eq (.var 133) (.wrap .i64 (.sub (.var 95) (.lit 16)))) (.and (.imp (.and (.eq (.var 2) (.lit 0)) (.and (.eq (.var 3) (.lit 0)) (.and (.eq (.var 4) (.lit 0)) (.and (.eq (.var 5) (.lit 0)) (.and (.eq (.var 6) (.lit 0)) (.and (.eq (.var 7) (.lit 0)) (.and (.eq (.var 8) (.lit 0)) (.and (.eq (.var 9) (.lit 0)) (.and (.eq (.var 10) (.lit 0)) (.and (.eq (.var 11) (.lit 0)) (.and (.eq (.var 12) (.lit 0)) (.and (.eq (.var 13) (.lit 0)) (.and (.eq (.var 14) (.lit 0)) (.and (.eq (.var 15) (.lit 0)) (.and (.eq (.var 16) (.lit 0)) (.and (.eq (.var 17) (.lit 0)) (.and (.eq (.var 18) (.lit 0)) (.and (.eq (.var 19) (.lit 0)) (.and (.eq (.var 20) (.lit 0)) (.and (.eq (.var 21) (.lit 0)) (.and (.eq (.var 22) (.lit 0)) (.and (.eq (.var 23) (.lit 0)) (.and (.eq (.var 24) (.lit 0)) (.and (.eq (.var 25) (.lit 0)) (.and (.eq (.var 26) (.lit 0)) (.and (.eq (.var 27) (.lit 0)) (.and (.eq (.var 28) (.lit 0)) (.and (.eq (.var 29) (.lit 0)) (.and (.eq (.var 30) (.lit 0)) (.and (.eq (.var 31) (.lit 0)) (.and (.eq (.var 32) (.lit 0)) (.eq (.var 33) (.lit 0))))))))))))))))))))))))))))))))) (.post [.ro 130 [.var 53] false, .dead] (.sv (.one (.bool .ff))))) (.imp (.not (.and (.eq (.var 2) (.lit 0)) (.and (.eq (.var 3) (.lit 0)) (.and (.eq (.var 4) (.lit 0)) (.and (.eq (.var 5) (.lit 0)) (.and (.eq (.var 6) (.lit 0)) (.and (.eq (.var 7) (.lit 0)) (.and (.eq (.var 8) (.lit 0)) (.and (.eq (.var 9) (.lit 0)) (.and (.eq (.var 10) (.lit 0)) (.and (.eq (.var 11) (.lit 0)) (.and (.eq (.var 12) (.lit 0)) (.and (.eq (.var 13) (.lit 0)) (.and (.eq (.var 14) (.lit 0)) (.and (.eq (.var 15) (.lit 0)) (.and (.eq (.var 16) (.lit 0)) (.and (.eq (.var 17) (.lit 0)) (.and (.eq (.var 18) (.lit 0)) (.and (.eq (.var 19) (.lit 0)) (.and (.eq (.var 20) (.lit 0)) (.and (.eq (.var 21) (.lit 0)) (.and (.eq (.var 22) (.lit 0)) (.and (.eq (.var 23) (.lit 0)) (.and (.eq (.var 24) (.lit 0)) (.and (.eq (.var 25) (.lit 0)) (.and (.eq (.var 26) (.lit 0)) (.and (.eq (.var 27) (.lit 0)) (.and (.eq (.var 28) (.lit 0)) (.and (.eq (.var 29) (.lit 0)) (.and (.eq (.var 30) (.lit 0)) (.and (.eq (.var 31) (.lit 0)) (.and (.eq (.var 32) (.lit 0)) (.eq (.var 33) (.lit 0)))))))))))))))))))))))))))))))))) (.post [.ro 130 [.var 53] false, .dead] (.sv (.one (.bool .ff))))))) (.imp (.not (.eq (.var 133) (.wrap .i64 (.sub (.var 95) (.lit 16))))) (.post [.ro 130 [.var 53] false, .dead] (.sv (.one (.bool .ff))))))))) (.imp (.not (.bvar 35)) (.and (.imp (.eq (.var 133) (.wrap .i64 (.sub (.var 95) (.lit 16)))) (.and (.imp (.and (.eq (.var 2) (.lit 0)) (.and (.eq (.var 3) (.lit 0)) (.and (.eq (.var 4) (.lit 0)) (.and (.eq (.var 5) (.lit 0)) (.and (.eq (.var 6) (.lit 0)) (.and (.eq (.var 7) (.lit 0)) (.and (.eq (.var 8) (.lit 0)) (.and (.eq (.var 9) (.lit 0)) (.and (.eq (.var 10) (.lit 0)) (.and (.eq (.var 11) (.lit 0)) (.and (.eq (.var 12) (.lit 0)) (.and (.eq (.var 13) (.lit 0)) (.and (.eq (.var 14) (.lit 0)) (.and (.eq (.var 15) (.lit 0)) (.and (.eq (.var 16) (.lit 0)) (.and (.eq (.var 17) (.lit 0)) (.and (.eq (.var 18) (.lit 0)) (.and (.eq (.var 19) (.lit 0)) (.and (.eq (.var 20) (.lit 0)) (.and (.eq (.var 21) (.lit 0)) (.and (.eq (.var 22) (.lit 0)) (.and (.eq (.var 23) (.lit 0)) (.and (.eq (.var 24) (.lit 0)) (.and (.eq (.var 25) (.lit 0)) (.and (.eq (.var 26) (.lit 0)) (.and (.eq (.var 27) (.lit 0)) (.and (.eq (.var 28) (.lit 0)) (.and (.eq (.var 29) (.lit 0)) (.and (.eq (.var 30) (.lit 0)) (.and (.eq (.var 31) (.lit 0)) (.and (.eq (.var 32) (.lit 0)) (.eq (.var 33) (.lit 0))))))))))))))))))))))))))))))))) (.and (.e (.le (.lit 0) (.wrap .i64 (.sub (.var 0) (.lit 1))))) (.and (.e (.lt (.wrap .i64 (.sub (.var 0) (.lit 1))) (.lit 6))) (.post [.ro 130 [.var 53] false, .dead] (.sv (.one (.bool (.eq (.ite (.eq (.wrap .i64 (.sub (.var 0) (.lit 1))) (.lit 0)) (.var 57) (.ite (.eq (.wrap .i64 (.sub (.var 0) (.lit 1))) (.lit 1)) (.var 58) (.ite (.eq (.wrap .i64 (.sub (.var 0) (.lit 1))) (.lit 2)) (.var 59) (.ite (.eq (.wrap .i64 (.sub (.var 0) (.lit 1))) (.lit 3)) (.var 60) (.ite (.eq (.wrap .i64 (.sub (.var 0) (.lit 1))) (.lit 4)) (.var 61) (.var 62)))))) (.wrap .u64 (.sub (.var 1) (.lit 1))))))))))) (.imp (.not (.and (.eq (.var 2) (.lit 0)) (.and (.eq (.var 3) (.lit 0)) (.and (.eq (.var 4) (.lit 0)) (.and (.eq (.var 5) (.lit 0)) (.and (.eq (.var 6) (.lit 0)) (.and (.eq (.var 7) (.lit 0)) (.and (.eq (.var 8) (.lit 0)) (.and (.eq (.var 9) (.lit 0)) (.and (.eq (.var 10) (.lit 0)) (.and (.eq (.var 11) (.lit 0)) (.and (.eq (.var 12) (.lit 0)) (.and (.eq (.var 13) (.lit 0)) (.and (.eq (.var 14) (.lit 0)) (.and (.eq (.var 15) (.lit 0)) (.and (.eq (.var 16) (.lit 0)) (.and (.eq (.var 17) (.lit 0)) (.and (.eq (.var 18) (.lit 0)) (.and (.eq (.var 19) (.lit 0)) (.and (.eq (.var 20) (.lit 0)) (.and (.eq (.var 21) (.lit 0)) (.and (.eq (.var 22) (.lit 0)) (.and (.eq (.var 23) (.lit 0)) (.and (.eq (.var 24) (.lit 0)) (.and (.eq (.var 25) (.lit 0)) (.and (.eq (.var 26) (.lit 0)) (.and (.eq (.var 27) (.lit 0)) (.and (.eq (.var 28) (.lit 0)) (.and (.eq (.var 29) (.lit 0)) (.and (.eq (.var 30) (.lit 0)) (.and (.eq (.var 31) (.lit 0)) (.and (.eq (.var 32) (.lit 0)) (.eq (.var 33) (.lit 0)))))))))))))))))))))))))))))))))) (.post [.ro 130 [.var 53] false, .dead] (.sv (.one (.bool .ff))))))) (.imp (.not (.eq (.var 133) (.wrap .i64 (.sub (.var 95) (.lit 16))))) (.post [.ro 130 [.var 53] false, .dead] (.sv (.one (.bool .ff))))))))) (.imp (.lt (.lit 1) (.var 1)) (.and (.imp (.bvar 35) (.and (.imp (.eq (.var 55) (.lit 0)) (.and (.imp (.eq (.var 133) (.wrap .i64 (.sub (.var 95) (.lit 16)))) (.and (.imp (.and (.eq (.var 37) (.lit 0)) (.and (.eq (.var 38) (.lit 0)) (.and (.eq (.var 39) (.lit 0)) (.and (.eq (.var 40) (.lit 0)) (.and (.eq (.var 41) (.lit 0)) (.and (.eq (.var 42) (.lit 0)) (.and (.eq (.var 43) (.lit 0)) (.and (.eq (.var 44) (.lit 0)) (.and (.eq (.var 45) (.lit 0)) (.and (.eq (.var 46) (.lit 0)) (.and (.eq (.var 47) (.lit 0)) (.and (.eq (.var 48) (.lit 0)) (.and (.eq (.var 49) (.lit 0)) (.and (.eq (.var 50) (.lit 0)) (.and (.eq (.var 51) (.lit 0)) (.eq (.var 52) (.lit 0))))))))))))))))) (.and (.e (.le (.lit 0) (.wrap .i64 (.sub (.var 0) (.lit 1))))) (.and (.e (.lt (.wrap .i64 (.sub (.var 0) (.lit 1))) (.lit 6))) (.post [.ro 130 [.var 53] false, .dead] (.sv (.one (.bool (.eq (.ite (.eq (.wrap .i64 (.sub (.var 0) (.lit 1))) (.lit 0)) (.var 57) (.ite (.eq (.wrap .i64 (.sub (.var 0) (.lit 1))) (.lit 1)) (.var 58) (.ite (.eq (.wrap .i64 (.sub (.var 0) (.lit 1))) (.lit 2)) (.var 59) (.ite (.eq (.wrap .i64 (.sub (.var 0) (.lit 1))) (.lit 3)) (.var 60) (.ite (.eq (.wrap .i64 (.sub (.var 0) (.lit 1))) (.lit 4)) (.var 61) (.var 62)))))) (.wrap .u64 (.sub (.var 1) (.lit 1))))))))))) (.imp (.not (.and (.eq (.var 37) (.lit 0)) (.and (.eq (.var 38) (.lit 0)) (.and (.eq (.var 39) (.lit 0)) (.and (.eq (.var 40) (.lit 0)) (.and (.eq (.var 41) (.lit 0)) (.and (.eq (.var 42) (.lit 0)) (.and (.eq (.var 43) (.lit 0)) (.and (.eq (.var 44) (.lit 0)) (.and (.eq (.var 45) (.lit 0)) (.and (.eq (.var 46) (.lit 0)) (.and (.eq (.var 47) (.lit 0)) (.and (.eq (.var 48) (.lit 0)) (.and (.eq (.var 49) (.lit 0)) (.and (.eq (.var 50) (.lit 0)) (.and (.eq (.var 51) (.lit 0)) (.eq (.var 52) (.lit 0)))))))))))))))))) (.post [.ro 130 [.var 53] false, .dead] (.sv (.one (.bool .ff))))))) (.imp (.not (.eq (.var 133) (.wrap .i64 (.sub (.var 95) (.lit 16))))) (.post [.ro 130 [.var 53] false, .dead] (.sv (.one (.bool .ff))))))) (.imp (.not (.eq (.var 55) (.lit 0))) (.and (.imp (.eq (.var 133) (.wrap .i64 (.sub (.var 95) (.lit 16)))) (.post [.ro 130 [.var 53] false, .dead] (.sv (.one (.bool .ff))))) (.imp (.not (.eq (.var 133) (.wrap .i64 (.sub (.var 95) (.lit 16))))) (.post [.ro 130 [.var 53] false, .dead] (.sv (.one (.bool .ff))))))))) (.imp (.not (.bvar 35)) (.and (.imp (.eq (.var 133) (.wrap .i64 (.sub (.var 95) (.lit 16)))) (.and (.e (.le (.lit 0) (.wrap .i64 (.sub (.var 0) (.lit 1))))) (.and (.e (.lt (.wrap .i64 (.sub (.var 0) (.lit 1))) (.lit 6))) (.post [.ro 130 [.var 53] false, .dead] (.sv (.one (.bool (.eq (.ite (.eq (.wrap .i64 (.sub (.var 0) (.lit 1))) (.lit 0)) (.var 57) (.ite (.eq (.wrap .i64 (.sub (.var 0) (.lit 1))) (.lit 1)) (.var 58) (.ite (.eq (.wrap .i64 (.sub (.var 0) (.lit 1))) (.lit 2)) (.var 59) (.ite (.eq (.wrap .i64 (.sub (.var 0) (.lit 1))) (.lit 3)) (.var 60) (.ite (.eq (.wrap .i64 (.sub (.var 0) (.lit 1))) (.lit 4)) (.var 61) (.var 62)))))) (.wrap .u64 (.sub (.var 1) (.lit 1))))))))))) (.imp (.not (.eq (.var 133) (.wrap .i64 (.sub (.var 95) (.lit 16))))) (.post [.ro 130 [.var 53] false, .dead] (.sv (.one (.bool .ff))))))))))))) (.imp (.not (.le (.var 95) (.lit 2064))) (.and (.imp (.not (.lt (.lit 1) (.var 1))) (.and (.imp (.bvar 35) (.and (.imp (.eq (.var 55) (.lit 0)) (.post [.ro 130 [.var 53] false, .dead] (.sv (.one (.bool .ff))))) (.imp (.not (.eq (.var 55) (.lit 0))) (.post [.ro 130 [.var 53] false, .dead] (.sv (.one (.bool .ff))))))) (.imp (.not (.bvar 35)) (.post [.ro 130 [.var 53] false, .dead] (.sv (.one (.bool .ff))))))) (.imp (.lt (.lit 1) (.var 1)) (.and (.imp (.bvar 35) (.and (.imp (.eq (.var 55) (.lit 0)) (.post [.ro 130 [.var 53] false, .dead] (.sv (.one (.bool .ff))))) (.imp (.not (.eq (.var 55) (.lit 0))) (.post [.ro 130 [.var 53] false, .dead] (.sv (.one (.bool .ff))))))) (.imp (.not (.bvar 35)) (.post [.ro 130 [.var 53] false, .dead] (.sv (.one (.bool .ff))))))))))) (.imp (.not (.le (.lit 80) (.var 95))) (.and (.imp (.not (.lt (.lit 1) (.var 1))) (.and (.imp (.bvar 35) (.and (.imp (.eq (.var 55) (.lit 0)) (.post [.ro 130 [.var 53] false, .dead] (.sv (.one (.bool .ff))))) (.imp (.not (.eq (.var 55) (.lit 0))) (.post [.ro 130 [.var 53] false, .dead] (.sv (.one (.bool .ff))))))) (.imp (.not (.bvar 35)) (.post [.ro 130 [.var 53] false, .dead] (.sv (.one (.bool .ff))))))) (.imp (.lt (.lit 1) (.var 1)) (.and (.imp (.bvar 35) (.and (.imp (.eq (.var 55) (.lit 0)) (.post [.ro 130 [.var 53] false, .dead] (.sv (.one (.bool .ff))))) (.imp (.not (.eq (.var 55) (.lit 0))) (.post [.ro 130 [.var 53] false, .dead] (.sv (.one (.bool .ff))))))) (.imp (.not (.bvar 35)) (.post [.ro 130 [.var 53] false, .dead] (.sv (.one (.bool .ff))))))))))))))))))))))))))) (.imp (.lt (.lit 8) (.var 55)) (.post [.ro 130 [.var 53] false, .dead] (.sv (.one (.bool .ff)))))))) (.imp (.lt (.lit 1099511627776) (.var 36)) (.post [.ro 130 [.var 53] false, .dead] (.sv (.one (.bool .ff))))))) (.imp (.lt (.lit 255) (.var 34)) (.post [.ro 130 [.var 53] false, .dead] (.sv (.one (.bool .ff))))))) (.imp (.lt (.var 34) (.lit 0)) (.post [.ro 130 [.var 53] false, .dead] (.sv (.one (.bool .ff))))))) (.imp (.lt (.lit 1048576) (.var 1)) (.post [.ro 130 [.var 53] false, .dead] (.sv (.one (.bool .ff))))))) (.imp (.lt (.var 1) (.lit 1)) (.post [.ro 130 [.var 53] false, .dead] (.sv (.one (.bool .ff))))))) (.imp (.lt (.lit 6) (.var 0)) (.post [.ro 130 [.var 53] false, .dead] (.sv (.one (.bool .ff))))))) (.imp (.lt (.var 0) (.lit 1)) (.post [.ro 130 [.var 53] false, .dead] (.sv (.one (.bool .ff))))))
noncomputable def rFormW : Walk Tryd.prog frmΓ 55 where
  Λ := noLoops
  args := (cpSVs 0 [.agg hk2]).map .sv
  mem := [.ro 130 [.var 53] false]
  nv := 131
  nd := rFormNd
  ok := by kernel_rfl
theorem chain1 (q : Env) : (q.i 2 = 0 ∧ q.i 3 = 0 ∧ q.i 4 = 0 ∧ q.i 5 = 0 ∧ q.i 6 = 0 ∧ q.i 7 = 0 ∧ q.i 8 = 0 ∧ q.i 9 = 0 ∧ q.i 10 = 0 ∧ q.i 11 = 0 ∧ q.i 12 = 0 ∧ q.i 13 = 0 ∧ q.i 14 = 0 ∧ q.i 15 = 0 ∧ q.i 16 = 0 ∧ q.i 17 = 0 ∧ q.i 18 = 0 ∧ q.i 19 = 0 ∧ q.i 20 = 0 ∧ q.i 21 = 0 ∧ q.i 22 = 0 ∧ q.i 23 = 0 ∧ q.i 24 = 0 ∧ q.i 25 = 0 ∧ q.i 26 = 0 ∧ q.i 27 = 0 ∧ q.i 28 = 0 ∧ q.i 29 = 0 ∧ q.i 30 = 0 ∧ q.i 31 = 0 ∧ q.i 32 = 0 ∧ q.i 33 = 0) ↔ zer (cI (hrow q 0)) 2 32 := Iff.rfl
theorem chain2 (q : Env) : (q.i 37 = 0 ∧ q.i 38 = 0 ∧ q.i 39 = 0 ∧ q.i 40 = 0 ∧ q.i 41 = 0 ∧ q.i 42 = 0 ∧ q.i 43 = 0 ∧ q.i 44 = 0 ∧ q.i 45 = 0 ∧ q.i 46 = 0 ∧ q.i 47 = 0 ∧ q.i 48 = 0 ∧ q.i 49 = 0 ∧ q.i 50 = 0 ∧ q.i 51 = 0 ∧ q.i 52 = 0) ↔ zer (cI (hrow q 0)) 37 16 := Iff.rfl
set_option maxHeartbeats 1000000 in
open Classical in
theorem rFormS_ok : (formS 55).OK Tryd.prog := by
  refine Spec.of_fn (Γ := frmΓ) frmΓ_ok ?_
  rintro xs Hs Rs hl1 hl2 ⟨row, R, h, rfl, rfl, hx⟩
  have e0 : Hs = [] := List.length_eq_zero_iff.1 hl1
  subst e0
  obtain ⟨ρ, rfl, w130, hnw, n54, n55, n56⟩ := hdr_env (R := R) hx.ok
  refine ⟨rFormW, ρ, fun _ _ => True, fun _ _ => 0, ?_, ⟨?_, ?_, ?_, ?_⟩, (fun _ h => nomatch h), ?_⟩
  · rfl
  · intro r hr ho; simp [rFormW] at hr; subst hr; cases ho
  · intro r hr ho; simp [rFormW] at hr; subst hr; exact ⟨R, by simp, by show (ρ.h 130).le R; rw [w130]; exact Hl.le_refl _⟩
  · simp [rFormW]
  · intro r hr; simp [rFormW] at hr; subst hr; trivial
  · show Nd.holds _ _ _ rFormNd
    unfold rFormNd
    simp only [Nd.holds, X.pre, X.rel, X.n, Src.ok, Src.len, Src.vals, true_and, and_true, if_true, Nat.mul_one, Nat.add_zero, Nat.reduceAdd, List.length_cons, List.length_nil, bT_tt, bT_ff, bT_bvar, bT_not, bT_and, bT_or, bT_ite, bT_lt, bT_le, bT_eq, bT_beq, bT_seq, bT_hB, bT_his, bT_hby, bT_hism, bT_hks, iev_lit, iev_var, iev_add, iev_sub, iev_mul, iev_wrap, iev_ite, iev_hI, iev_hP, iev_hmlen, sev_ite, sev_slit, sev_sof, sev_svar, TV.ev, SV.ev, CV.ev, List.map_cons, List.map_nil, Res.hl, cpTV, Cp.sv, Ck.cv, cpSVs, Cp.len, Ck.len, newHs_zero, newHs_one, roots_ne, fg1, fr0, fg3, fr3, sc1, sc2, chain1, chain2]
    have hF := hx.form
    have hT := hx.tok
    have hT : RdRows R (.slice (slP (ρ.i 53) (ρ.i 54)) (ρ.i 55).toNat (ρ.i 56).toNat) tkd (h.t.map bys) := hT
    have hlen : (ρ.i 55).toNat = h.t.length := rd_len hT
    have h92 : cI (hrow ρ 0) 92 = ρ.i 95 := rfl
    have h35 : cB (hrow ρ 0) 35 = ρ.b 35 := rfl
    rw [h92, h35] at hF
    have eP : placedP (hrow ρ 0) ↔ ((1 ≤ ρ.i 0 ∧ ρ.i 0 ≤ 6) ∧ (1 ≤ ρ.i 1 ∧ ρ.i 1 ≤ 1048576) ∧ (0 ≤ ρ.i 34 ∧ ρ.i 34 ≤ 255) ∧ ρ.i 36 ≤ 1099511627776 ∧ cI (hrow ρ 0) (54 + (ρ.i 0 - 1).toNat) = ρ.i 1 - 1 ∧ (ρ.i 57 ≤ 1048576 ∧ ρ.i 58 ≤ 1048576 ∧ ρ.i 59 ≤ 1048576 ∧ ρ.i 60 ≤ 1048576 ∧ ρ.i 61 ≤ 1048576 ∧ ρ.i 62 ≤ 1048576) ∧ (1 < ρ.i 1 ∨ zer (cI (hrow ρ 0)) 2 32)) := Iff.rfl
    have eK := know_ite ρ
    have eB := @buck_pad (ρ.i 95)
    have eI := @isPad_in (ρ.i 95)
    have eN : h.t = [] ↔ ρ.i 55 = 0 := by rw [← List.length_eq_zero_iff]; omega
    rw [eP, eN] at hF
    clear eP eN
    obtain ⟨z1, hz1⟩ := as_int (zer (cI (hrow ρ 0)) 2 32)
    obtain ⟨z2, hz2⟩ := as_int (zer (cI (hrow ρ 0)) 37 16)
    obtain ⟨z3, hz3⟩ := as_int (ρ.b 35 = true)
    obtain ⟨z4, hz4⟩ := as_int (SortedT h.t)
    obtain ⟨z5, hz5⟩ := as_int (isPad (ρ.i 95 - 16))
    rw [hz1, hz2, hz3, hz4, hz5] at hF
    rw [hz5] at eB eI
    have ff : ∀ {q : Env} {mem : Mem}, ¬ h.Form → postOf (formS 55) [.agg (hrow ρ 0).toArray] [] [R] q mem (.sv (.one (.bool .ff))) := fun hf => form_post hx ⟨fun e => (by rw [bev_ff] at e; cases e), fun e => absurd e hf⟩
    rw [hF] at ff
    intro q1 g1 _
    rw [g1.i 0 (by omega), g1.i 1 (by omega), g1.i 34 (by omega), g1.i 36 (by omega), g1.i 55 (by omega), g1.i 53 (by omega), g1.i 54 (by omega), g1.i 56 (by omega), g1.h 130 (by omega), w130]
    refine ⟨fun c0 => ⟨fun c1 => ⟨fun c2 => ⟨fun c3 => ⟨fun c4 => ⟨fun c5 => ⟨fun c6 => ⟨n55, fun c7 => ⟨⟨_, R, h.t, rfl, rfl, hT, hx.byte⟩, fun q2 g2 ⟨F2, hp2, _⟩ => ?_⟩, fun c => ff (by omega)⟩, fun c => ff (by omega)⟩, fun c => ff (by omega)⟩, fun c => ff (by omega)⟩, fun c => ff (by omega)⟩, fun c => ff (by omega)⟩, fun c => ff (by omega)⟩, fun c => ff (by omega)⟩
    have G2 : Agree 131 ρ q2 := g1.trans (g2.mono (by omega))
    have hs := sort_post hT hp2
    have hs : q2.b 132 = decide (SortedT h.t) := by simpa [bev_bvar] using hs
    rw [hs, decide_eq_true_eq, hz4]
    simp only [G2.i 0 (by omega), G2.i 1 (by omega), G2.i 34 (by omega), G2.i 36 (by omega), G2.i 55 (by omega), G2.i 57 (by omega), G2.i 58 (by omega), G2.i 59 (by omega), G2.i 60 (by omega), G2.i 61 (by omega), G2.i 62 (by omega), G2.i 95 (by omega), G2.b 35 (by omega)]
    refine ⟨fun c => ff (by omega), fun d0 => ⟨fun c => ff (by omega), fun d1 => ⟨fun c => ff (by omega), fun d2 => ⟨fun c => ff (by omega), fun d3 => ⟨fun c => ff (by omega), fun d4 => ⟨fun c => ff (by omega), fun d5 => ⟨fun c => ff (by omega), fun d6 => ⟨fun e0 => ⟨fun e1 => ⟨⟨⟨envI [IntKind.i64.wrap (ρ.i 95 - 17)] false [], ⟨trivial, trivial⟩, rfl⟩, trivial⟩, fun q3 g3 ⟨F3, hp3, _⟩ => ?_⟩, fun c => ?_⟩, fun c => ?_⟩⟩⟩⟩⟩⟩⟩⟩
    rotate_left
    · rw [hz3]
      exact ⟨fun f0 => ⟨fun f1 => ⟨fun f2 => ff (by omega), fun f2 => ff (by omega)⟩, fun f1 => ff (by omega)⟩, fun f0 => ⟨fun f1 => ⟨fun f2 => ff (by omega), fun f2 => ff (by omega)⟩, fun f1 => ff (by omega)⟩⟩
    · rw [hz3]
      exact ⟨fun f0 => ⟨fun f1 => ⟨fun f2 => ff (by omega), fun f2 => ff (by omega)⟩, fun f1 => ff (by omega)⟩, fun f0 => ⟨fun f1 => ⟨fun f2 => ff (by omega), fun f2 => ff (by omega)⟩, fun f1 => ff (by omega)⟩⟩
    have G3 : Agree 131 ρ q3 := G2.trans (g3.mono (by omega))
    have hp3 : Value.int .i64 (q3.i 133) = .int .i64 (buck (IntKind.i64.wrap (ρ.i 95 - 17))) := hp3
    simp only [Value.int.injEq, true_and] at hp3
    have hr3 : hrow q3 0 = hrow ρ 0 := hrow_ag (G3.mono (by omega))
    have eB := eB e0 e1
    simp only [hp3, hr3, hz1, hz2, eB, G3.i 0 (by omega), G3.i 1 (by omega), G3.i 34 (by omega), G3.i 36 (by omega), G3.i 55 (by omega), G3.i 57 (by omega), G3.i 58 (by omega), G3.i 59 (by omega), G3.i 60 (by omega), G3.i 61 (by omega), G3.i 62 (by omega), G3.i 95 (by omega), G3.b 35 (by omega)]
    rw [hz3]
    have w0 : IntKind.i64.wrap (ρ.i 0 - 1) = ρ.i 0 - 1 := IntWalk.i64_in _ (by omega)
    have w1 : IntKind.u64.wrap (ρ.i 1 - 1) = ρ.i 1 - 1 := wu64 (by omega) (by omega)
    have kf : ∀ {mem : Mem}, (cI (hrow ρ 0) (54 + (ρ.i 0 - 1).toNat) = ρ.i 1 - 1 ↔ h.Form) → postOf (formS 55) [.agg (hrow ρ 0).toArray] [] [R] q3 mem (.sv (.one (.bool (.eq (.ite (.eq (.wrap .i64 (.sub (.var 0) (.lit 1))) (.lit 0)) (.var 57) (.ite (.eq (.wrap .i64 (.sub (.var 0) (.lit 1))) (.lit 1)) (.var 58) (.ite (.eq (.wrap .i64 (.sub (.var 0) (.lit 1))) (.lit 2)) (.var 59) (.ite (.eq (.wrap .i64 (.sub (.var 0) (.lit 1))) (.lit 3)) (.var 60) (.ite (.eq (.wrap .i64 (.sub (.var 0) (.lit 1))) (.lit 4)) (.var 61) (.var 62)))))) (.wrap .u64 (.sub (.var 1) (.lit 1))))))) := fun {mem} hh => form_post hx (by
      rw [← hh, eK (by omega)]
      simp only [bT_eq, iev_ite, iev_wrap, iev_sub, iev_var, iev_lit, G3.i 0 (by omega), G3.i 1 (by omega), G3.i 57 (by omega), G3.i 58 (by omega), G3.i 59 (by omega), G3.i 60 (by omega), G3.i 61 (by omega), G3.i 62 (by omega), w0, w1])
    rw [hF] at kf
    rw [w0]
    exact ⟨fun f0 => ⟨fun f1 => ⟨fun f2 => ⟨fun f3 => ⟨fun f4 => ⟨fun f5 => ⟨by omega, by omega, kf (by omega)⟩, fun f5 => ff (by omega)⟩, fun f4 => ff (by omega)⟩, fun f3 => ff (by omega)⟩, fun f2 => ⟨fun f3 => ⟨fun f4 => ff (by omega), fun f4 => ff (by omega)⟩, fun f3 => ff (by omega)⟩⟩, fun f1 => ⟨fun f3 => ⟨fun f4 => ⟨by omega, by omega, kf (by omega)⟩, fun f4 => ff (by omega)⟩, fun f3 => ff (by omega)⟩⟩,
      fun f0 => ⟨fun f1 => ⟨fun f2 => ⟨fun f3 => ⟨fun f5 => ⟨by omega, by omega, kf (by omega)⟩, fun f5 => ff (by omega)⟩, fun f3 => ff (by omega)⟩, fun f2 => ⟨fun f3 => ff (by omega), fun f3 => ff (by omega)⟩⟩, fun f1 => ⟨fun f3 => ⟨by omega, by omega, kf (by omega)⟩, fun f3 => ff (by omega)⟩⟩⟩
end Go.Proofs.YtomdimlnggpgbaaDoor
namespace Go.Proofs.YtomdimlnggpgbaaDoor
open Go Go.Sx Go.Pk
def segI (l : List Value) (a n : Nat) : List Int := (List.range n).map fun j => cI l (a + j)
def u64N (z : Int) : Nat := (IntKind.u64.wrap z).toNat
def flagB (b : Bool) : List Int := [if b = true then 1 else 0]
def coreA (l : List Value) (n : Nat) : List Int := numB (u64N (cI l 0)) ++ numB (cI l 1).toNat ++ segI l 2 32 ++ numB (u64N (cI l 34)) ++ flagB (cB l 35) ++ numB (cI l 36).toNat ++ segI l 37 16 ++ numB n
def coreZ (l : List Value) (bs : List Int) : List Int := bs ++ numB (cI l 54).toNat ++ numB (cI l 55).toNat ++ numB (cI l 56).toNat ++ numB (cI l 57).toNat ++ numB (cI l 58).toNat ++ numB (cI l 59).toNat ++ segI l 60 32 ++ numB (u64N (cI l 92))
def coreB (h : Hd) : List Int := coreZ h.c (coreA h.c h.t.length ++ h.t.flatten)
theorem u64N_lt (z : Int) : u64N z < 18446744073709551616 := by
  unfold u64N; rw [IntKind.wrap_u64]; omega
theorem u64_in (z : Int) : 0 ≤ IntKind.u64.wrap z ∧ IntKind.u64.wrap z < 18446744073709551616 := by
  rw [IntKind.wrap_u64]; omega
theorem rowOK_get : ∀ {row : List Value} {ks : List Kd} {k : Nat} {kd : Kd}, rowOK row ks → ks[k]? = some kd → ∃ v, row[k]? = some v ∧ valIs (some v) kd = true
  | [], [], k, kd, _, h => by simp at h
  | v :: l, kd' :: m, 0, kd, h, e => ⟨v, rfl, by rw [List.getElem?_cons_zero, Option.some.injEq] at e; subst e; exact h.1⟩
  | v :: l, kd' :: m, k + 1, kd, h, e => by
    rw [List.getElem?_cons_succ] at e ⊢
    exact rowOK_get h.2 e
theorem row_u8 {row : List Value} (h : rowOK row hkd) {k : Nat} (hk : hkd[k]? = some (.int .u8)) : row[k]? = some (.int .u8 (cI row k)) := by
  obtain ⟨v, hv, hi⟩ := rowOK_get h hk
  unfold cI
  rw [hv]
  cases v <;> simp [valIs] at hi
  subst hi; rfl
theorem row_u64 {row : List Value} (h : rowOK row hkd) {k : Nat} (hk : hkd[k]? = some (.int .u64)) : row[k]? = some (.int .u64 (cI row k)) := by
  obtain ⟨v, hv, hi⟩ := rowOK_get h hk
  unfold cI
  rw [hv]
  cases v <;> simp [valIs] at hi
  subst hi; rfl
theorem k_prev : ∀ j, j < 32 → hkd[2 + j]? = some (.int .u8) := by decide
theorem k_item : ∀ j, j < 16 → hkd[37 + j]? = some (.int .u8) := by decide
theorem k_sum : ∀ j, j < 32 → hkd[60 + j]? = some (.int .u8) := by decide
theorem segI_len (l : List Value) (a n : Nat) : (segI l a n).length = n := by unfold segI; simp
theorem segI_at {row : List Value} (h : rowOK row hkd) {a n : Nat} (hk : ∀ j, j < n → hkd[a + j]? = some (.int .u8)) : ∀ j z, (segI row a n)[j]? = some z → row[a + j]? = some (.int .u8 z) := by
  intro j z hz
  have hj : j < n := by have := (List.getElem?_eq_some_iff.1 hz).1; rwa [segI_len] at this
  unfold segI at hz
  rw [List.getElem?_map, List.getElem?_range hj, Option.map_some, Option.some.injEq] at hz
  subst hz
  exact row_u8 h (hk j hj)
theorem rdB_row {q : Env} {a : Nat} (h0 : 0 ≤ q.i a) (hr : rowOK (hrow q 0) hkd) {o n : Nat} (hk : ∀ j, j < n → hkd[o + j]? = some (.int .u8)) : RdB ((Res.blk a (ckCVs 0 hk2) 100).hl q) (.slice (slP (q.i a) (o : Int)) ((n : Int)).toNat ((n : Int)).toNat) (segI (hrow q 0) o n) :=
  rdB_blk h0 (segI_at hr hk) (segI_len _ _ _).symm
theorem numStep {q : Env} {n : Nat} {p v : Value} {z : Int} {H : Hl} {bs : List Int} {lg : Bool} {A : Env → Hl → Prop} {K : Env → Prop} (h : OutAt H p bs lg) (hz : 0 ≤ z ∧ z < 18446744073709551616) (hl : bs.length ≤ 900000) (k : ∀ q', Agree n q q' → OutAt (q'.h n) p (bs ++ numB z.toNat) lg → K q') :
    oNumS.pre [p, .int .u64 z] [H] [] ∧ ∀ q', Agree n q q' → (∃ F, oNumS.post [p, .int .u64 z] [H] [] v [q'.h n] F ∧ A q' F) → K q' := by
  refine ⟨⟨_, _, H, bs, lg, rfl, rfl, h, ⟨z, rfl, hz⟩, hl⟩, fun q' g ⟨F, hp, _⟩ => k q' g ?_⟩
  obtain ⟨H', hK, hO⟩ := op_post h hp
  have hK : q'.h n = H' := by simpa using hK
  rw [hK]; exact hO
theorem flagStep {q : Env} {n : Nat} {p v : Value} {b : Bool} {H : Hl} {bs : List Int} {lg : Bool} {A : Env → Hl → Prop} {K : Env → Prop} (h : OutAt H p bs lg) (hl : bs.length ≤ 900000) (k : ∀ q', Agree n q q' → OutAt (q'.h n) p (bs ++ flagB b) lg → K q') :
    oFlagS.pre [p, .bool b] [H] [] ∧ ∀ q', Agree n q q' → (∃ F, oFlagS.post [p, .bool b] [H] [] v [q'.h n] F ∧ A q' F) → K q' := by
  refine ⟨⟨_, _, H, bs, lg, rfl, rfl, h, ⟨b, rfl⟩, hl⟩, fun q' g ⟨F, hp, _⟩ => k q' g ?_⟩
  obtain ⟨H', hK, hO⟩ := op_post h hp
  have hK : q'.h n = H' := by simpa using hK
  rw [hK]; exact hO
theorem rawStep {q : Env} {n : Nat} {p u v : Value} {H R : Hl} {bs b2 : List Int} {lg : Bool} {A : Env → Hl → Prop} {K : Env → Prop} (h : OutAt H p bs lg) (h2 : RdW R u b2) (hl : bs.length ≤ 900000) (hl2 : b2.length ≤ 90000) (k : ∀ q', Agree n q q' → OutAt (q'.h n) p (bs ++ b2) lg → K q') :
    oRawS.pre [p, u] [H] [R] ∧ ∀ q', Agree n q q' → (∃ F, oRawS.post [p, u] [H] [R] v [q'.h n] F ∧ A q' F) → K q' := by
  refine ⟨⟨_, _, H, R, bs, lg, b2, rfl, rfl, rfl, h, h2, hl, hl2⟩, fun q' g ⟨F, hp, _⟩ => k q' g ?_⟩
  obtain ⟨H', hK, hO⟩ := raw_post h h2 hp
  have hK : q'.h n = H' := by simpa using hK
  rw [hK]; exact hO
theorem flat16 : ∀ {T : List (List Int)}, (∀ t ∈ T, t.length = 16) → T.flatten.length = T.length * 16
  | [], _ => rfl
  | t :: T, h => by
    rw [List.flatten_cons, List.length_append, h t (List.mem_cons_self ..), flat16 (fun u hu => h u (List.mem_cons_of_mem _ hu)), List.length_cons]; omega
theorem slP_eq {a b x y : Int} (hx : 0 ≤ x) (hy : 0 ≤ y) (hb : 0 ≤ b) (h : slP a b = slP x y) : a = x ∧ b = y := by
  rcases Int.lt_or_le a 0 with ha | ha
  · exfalso
    rw [slP_pos hx] at h
    unfold slP at h
    rw [if_neg (by omega)] at h
    split at h
    · cases h
    · simp only [Option.some.injEq, Addr.mk.injEq] at h
      obtain ⟨_, _, h⟩ := h
      cases h
  · rw [slP_pos ha, slP_pos hx] at h
    simp only [Option.some.injEq, Addr.mk.injEq] at h
    omega
theorem lenB {z : Nat} (h : z < 18446744073709551616) : (numB z).length ≤ 10 := num_bound h
noncomputable def coreS (f : FuncId) : Sx.Spec where
  fn := f
  own := []
  rd := [10053]
  res := [.one .sl]
  pre := fun xs Hs Rs => ∃ row R h, xs = [.agg row.toArray] ∧ Rs = [R] ∧ IsHd R row h ∧ h.t.length ≤ 8
  post := fun xs Hs Rs v Hs' F => ∃ row R h, xs = [.agg row.toArray] ∧ Rs = [R] ∧ IsHd R row h ∧ OwB F 5 v (coreB h)
def eCoreNd : Nd := .ext (.alloc 131) (.ext (.alloc 132) (.and (.pre (.call 0 133 [.sv (.one (.hptr (.var 132) (.lit 0))), .sv (.one (.int .u64 (.wrap .u64 (.var 0))))] [.blk 132 [.sl (.lit (-1)) (.lit 0) (.lit 0) (.lit 0), .bool .ff] 124] [])) (.ext (.call 0 133 [.sv (.one (.hptr (.var 132) (.lit 0))), .sv (.one (.int .u64 (.wrap .u64 (.var 0))))] [.blk 132 [.sl (.lit (-1)) (.lit 0) (.lit 0) (.lit 0), .bool .ff] 124] []) (.and (.pre (.call 0 135 [.sv (.one (.hptr (.var 132) (.lit 0))), .sv (.one (.int .u64 (.var 1)))] [.hp 133 [] [.var 132] []] [])) (.ext (.call 0 135 [.sv (.one (.hptr (.var 132) (.lit 0))), .sv (.one (.int .u64 (.var 1)))] [.hp 133 [] [.var 132] []] []) (.and (.pre (.call 1 137 [.sv (.one (.hptr (.var 132) (.lit 0))), .sv (.one (.sl (.var 131) (.lit 2) (.lit 32) (.lit 32)))] [.hp 135 [133] [.var 132] []] [.blk 131 (ckCVs 0 hk2) 100])) (.ext (.call 1 137 [.sv (.one (.hptr (.var 132) (.lit 0))), .sv (.one (.sl (.var 131) (.lit 2) (.lit 32) (.lit 32)))] [.hp 135 [133] [.var 132] []] [.blk 131 (ckCVs 0 hk2) 100]) (.and (.pre (.call 0 139 [.sv (.one (.hptr (.var 132) (.lit 0))), .sv (.one (.int .u64 (.wrap .u64 (.var 34))))] [.hp 137 [135, 133] [.var 132] []] [])) (.ext (.call 0 139 [.sv (.one (.hptr (.var 132) (.lit 0))), .sv (.one (.int .u64 (.wrap .u64 (.var 34))))] [.hp 137 [135, 133] [.var 132] []] []) (.and (.pre (.call 2 141 [.sv (.one (.hptr (.var 132) (.lit 0))), .sv (.one (.bool (.bvar 35)))] [.hp 139 [137, 135, 133] [.var 132] []] [])) (.ext (.call 2 141 [.sv (.one (.hptr (.var 132) (.lit 0))), .sv (.one (.bool (.bvar 35)))] [.hp 139 [137, 135, 133] [.var 132] []] []) (.and (.pre (.call 0 143 [.sv (.one (.hptr (.var 132) (.lit 0))), .sv (.one (.int .u64 (.var 36)))] [.hp 141 [139, 137, 135, 133] [.var 132] []] [])) (.ext (.call 0 143 [.sv (.one (.hptr (.var 132) (.lit 0))), .sv (.one (.int .u64 (.var 36)))] [.hp 141 [139, 137, 135, 133] [.var 132] []] []) (.and (.pre (.call 1 145 [.sv (.one (.hptr (.var 132) (.lit 0))), .sv (.one (.sl (.var 131) (.lit 37) (.lit 16) (.lit 16)))] [.hp 143 [141, 139, 137, 135, 133] [.var 132] []] [.blk 131 (ckCVs 0 hk2) 100])) (.ext (.call 1 145 [.sv (.one (.hptr (.var 132) (.lit 0))), .sv (.one (.sl (.var 131) (.lit 37) (.lit 16) (.lit 16)))] [.hp 143 [141, 139, 137, 135, 133] [.var 132] []] [.blk 131 (ckCVs 0 hk2) 100]) (.and (.e (.le (.lit 0) (.var 55))) (.and (.pre (.call 0 147 [.sv (.one (.hptr (.var 132) (.lit 0))), .sv (.one (.int .u64 (.wrap .u64 (.var 55))))] [.hp 145 [143, 141, 139, 137, 135, 133] [.var 132] []] [])) (.ext (.call 0 147 [.sv (.one (.hptr (.var 132) (.lit 0))), .sv (.one (.int .u64 (.wrap .u64 (.var 55))))] [.hp 145 [143, 141, 139, 137, 135, 133] [.var 132] []] []) (.and (.inv 0 [⟨201, 0, .int .i64 (.lit 0)⟩] [(202, some 147)]) (.havoc 0 0 149 (.and (.imp (.lt (.var 201) (.var 55)) (.and (.e (.le (.lit 0) (.var 53))) (.and (.e (.le (.lit 0) (.var 54))) (.and (.e (.le (.lit 0) (.var 201))) (.and (.e (.hby 130 (.var 53) (.add (.var 54) (.mul (.var 201) (.lit 16))) (.lit 16))) (.ext (.alloc 210) (.and (.pre (.call 1 211 [.sv (.one (.hptr (.var 132) (.lit 0))), .sv (.one (.sl (.var 210) (.lit 0) (.lit 16) (.lit 16)))] [.hp 202 [] [.var 132] []] [.blk 210 (romCells 130 (.var 53) (.add (.var 54) (.mul (.var 201) (.lit 16))) 0 (List.replicate 16 (Kd.int .u8))) 97])) (.ext (.call 1 211 [.sv (.one (.hptr (.var 132) (.lit 0))), .sv (.one (.sl (.var 210) (.lit 0) (.lit 16) (.lit 16)))] [.hp 202 [] [.var 132] []] [.blk 210 (romCells 130 (.var 53) (.add (.var 54) (.mul (.var 201) (.lit 16))) 0 (List.replicate 16 (Kd.int .u8))) 97]) (.back 0 0 [⟨201, 0, .int .i64 (.wrap .i64 (.add (.var 201) (.lit 1)))⟩] [(202, some 211)]))))))))) (.imp (.not (.lt (.var 201) (.var 55))) (.and (.pre (.call 0 210 [.sv (.one (.hptr (.var 132) (.lit 0))), .sv (.one (.int .u64 (.var 57)))] [.hp 202 [] [.var 132] []] [])) (.ext (.call 0 210 [.sv (.one (.hptr (.var 132) (.lit 0))), .sv (.one (.int .u64 (.var 57)))] [.hp 202 [] [.var 132] []] []) (.and (.pre (.call 0 212 [.sv (.one (.hptr (.var 132) (.lit 0))), .sv (.one (.int .u64 (.var 58)))] [.hp 210 [202] [.var 132] []] [])) (.ext (.call 0 212 [.sv (.one (.hptr (.var 132) (.lit 0))), .sv (.one (.int .u64 (.var 58)))] [.hp 210 [202] [.var 132] []] []) (.and (.pre (.call 0 214 [.sv (.one (.hptr (.var 132) (.lit 0))), .sv (.one (.int .u64 (.var 59)))] [.hp 212 [210, 202] [.var 132] []] [])) (.ext (.call 0 214 [.sv (.one (.hptr (.var 132) (.lit 0))), .sv (.one (.int .u64 (.var 59)))] [.hp 212 [210, 202] [.var 132] []] []) (.and (.pre (.call 0 216 [.sv (.one (.hptr (.var 132) (.lit 0))), .sv (.one (.int .u64 (.var 60)))] [.hp 214 [212, 210, 202] [.var 132] []] [])) (.ext (.call 0 216 [.sv (.one (.hptr (.var 132) (.lit 0))), .sv (.one (.int .u64 (.var 60)))] [.hp 214 [212, 210, 202] [.var 132] []] []) (.and (.pre (.call 0 218 [.sv (.one (.hptr (.var 132) (.lit 0))), .sv (.one (.int .u64 (.var 61)))] [.hp 216 [214, 212, 210, 202] [.var 132] []] [])) (.ext (.call 0 218 [.sv (.one (.hptr (.var 132) (.lit 0))), .sv (.one (.int .u64 (.var 61)))] [.hp 216 [214, 212, 210, 202] [.var 132] []] []) (.and (.pre (.call 0 220 [.sv (.one (.hptr (.var 132) (.lit 0))), .sv (.one (.int .u64 (.var 62)))] [.hp 218 [216, 214, 212, 210, 202] [.var 132] []] [])) (.ext (.call 0 220 [.sv (.one (.hptr (.var 132) (.lit 0))), .sv (.one (.int .u64 (.var 62)))] [.hp 218 [216, 214, 212, 210, 202] [.var 132] []] []) (.and (.pre (.call 1 222 [.sv (.one (.hptr (.var 132) (.lit 0))), .sv (.one (.sl (.var 131) (.lit 60) (.lit 32) (.lit 32)))] [.hp 220 [218, 216, 214, 212, 210, 202] [.var 132] []] [.blk 131 (ckCVs 0 hk2) 100])) (.ext (.call 1 222 [.sv (.one (.hptr (.var 132) (.lit 0))), .sv (.one (.sl (.var 131) (.lit 60) (.lit 32) (.lit 32)))] [.hp 220 [218, 216, 214, 212, 210, 202] [.var 132] []] [.blk 131 (ckCVs 0 hk2) 100]) (.and (.pre (.call 0 224 [.sv (.one (.hptr (.var 132) (.lit 0))), .sv (.one (.int .u64 (.wrap .u64 (.var 95))))] [.hp 222 [220, 218, 216, 214, 212, 210, 202] [.var 132] []] [])) (.ext (.call 0 224 [.sv (.one (.hptr (.var 132) (.lit 0))), .sv (.one (.int .u64 (.wrap .u64 (.var 95))))] [.hp 222 [220, 218, 216, 214, 212, 210, 202] [.var 132] []] []) (.and (.pre (.call 3 226 [.sv (.one (.hptr (.var 132) (.lit 0)))] [] [.hp 224 [222, 220, 218, 216, 214, 212, 210, 202] [.var 132] []])) (.ext (.call 3 226 [.sv (.one (.hptr (.var 132) (.lit 0)))] [] [.hp 224 [222, 220, 218, 216, 214, 212, 210, 202] [.var 132] []]) (.post [.ro 130 [.var 53] false, .dead, .hp 224 [222, 220, 218, 216, 214, 212, 210, 202] [.var 132] [], .hp 226 [] [.var 226] []] (.sv (.one (.sl (.var 226) (.var 227) (.var 228) (.var 229)))))))))))))))))))))))))))))))))))))))))))))
def eoΓ : List Sx.Spec := [oNumS, oRawS, oFlagS, oEndS]
theorem eoΓ_ok : ∀ t ∈ eoΓ, t.OK Tryd.prog := fun t ht => by
  simp only [eoΓ, List.mem_cons, List.mem_nil_iff, or_false] at ht
  rcases ht with rfl | rfl | rfl | rfl
  · exact oNumS_ok
  · exact oRawS_ok
  · exact oFlagS_ok
  · exact oEndS_ok
theorem eg0 : eoΓ[0]? = some oNumS := rfl
theorem eg1 : eoΓ[1]? = some oRawS := rfl
theorem eg2 : eoΓ[2]? = some oFlagS := rfl
theorem eg3 : eoΓ[3]? = some oEndS := rfl
theorem er0 : oNumS.res = [] := rfl
theorem er1 : oRawS.res = [] := rfl
theorem er2 : oFlagS.res = [] := rfl
theorem er3 : oEndS.res = [.one .sl, .one (.int .i64)] := rfl
def eCoreW : Walk Tryd.prog eoΓ 122 where
  Λ := fun p => if decide (p.length = 14) && !(p.head? == some 99) then some ⟨0, [(41, TI .i64 (.var 201))], [(2, .hp 202 [] [.var 132] [])], 210⟩ else none
  args := (cpSVs 0 [.agg hk2]).map .sv
  mem := [.ro 130 [.var 53] false]
  nv := 131
  nd := eCoreNd
  ok := by kernel_rfl
theorem end_post {p v n : Value} {R F : Hl} {bs : List Int} {lg : Bool} {K : List Hl} (h : OutAt R p bs lg) (hp : oEndS.post [p] [] [R] (.tuple #[v, n]) K F) : OwB F 5 v (endR bs lg).1 := by
  obtain ⟨p', R', bs', lg', u, e1, e2, hO, hv, hw⟩ := hp
  simp only [List.cons.injEq, and_true] at e1 e2
  subst e1 e2
  obtain ⟨e1, e2⟩ := h.uniq hO
  subst e1 e2
  simp only [Value.tuple.injEq, Array.mk.injEq, List.cons.injEq, and_true] at hv
  rw [hv.1]; exact hw
theorem core_row {R : Hl} {row : List Value} {h : Hd} (x : IsHd R row h) : coreB h = coreZ row (coreA row h.t.length ++ h.t.flatten) := by
  have hs : ∀ a n, (∀ j, j < n → a + j ≠ 53) → segI h.c a n = segI row a n := fun a n ha => List.map_congr_left fun j hj => x.I (ha j (List.mem_range.1 hj))
  unfold coreB coreZ coreA
  rw [hs 2 32 (fun j hj => by omega), hs 37 16 (fun j hj => by omega), hs 60 32 (fun j hj => by omega), x.I (k := 0) (by decide), x.I (k := 1) (by decide), x.I (k := 34) (by decide), x.B (k := 35) (by decide), x.I (k := 36) (by decide), x.I (k := 54) (by decide), x.I (k := 55) (by decide), x.I (k := 56) (by decide), x.I (k := 57) (by decide), x.I (k := 58) (by decide), x.I (k := 59) (by decide), x.I (k := 92) (by decide)]
theorem eCoreS_ok : (coreS 122).OK Tryd.prog := by
  refine Spec.of_fn (Γ := eoΓ) eoΓ_ok ?_
  rintro xs Hs Rs hl1 hl2 ⟨row, R, h, rfl, rfl, hx, h8⟩
  have e0 : Hs = [] := List.length_eq_zero_iff.1 hl1
  subst e0
  obtain ⟨ρ, rfl, w130, hnw, n54, n55, n56⟩ := hdr_env (R := R) hx.ok
  refine ⟨eCoreW, ρ, fun _ q => ∃ i : Nat, q.i 201 = i ∧ i ≤ h.t.length ∧ OutAt (q.h 202) (.pointer (slP (q.i 132) 0)) (coreA (hrow ρ 0) h.t.length ++ (h.t.take i).flatten) false, fun _ q => (h.t.length - q.i 201).toNat, rfl, ⟨?_, ?_, ?_, ?_⟩, (fun _ h => nomatch h), ?_⟩
  · intro r hr ho; simp [eCoreW] at hr; subst hr; cases ho
  · intro r hr ho; simp [eCoreW] at hr; subst hr; exact ⟨R, by simp, by show (ρ.h 130).le R; rw [w130]; exact Hl.le_refl _⟩
  · simp [eCoreW]
  · intro r hr; simp [eCoreW] at hr; subst hr; trivial
  · show Nd.holds _ _ _ eCoreNd
    unfold eCoreNd
    simp only [Nd.holds, X.pre, X.rel, X.n, Src.ok, Src.len, Src.vals, true_and, and_true, if_true, Nat.mul_one, Nat.add_zero, Nat.reduceAdd, List.length_cons, List.length_nil, bT_tt, bT_ff, bT_bvar, bT_not, bT_and, bT_or, bT_ite, bT_lt, bT_le, bT_eq, bT_beq, bT_seq, bT_hB, bT_his, bT_hby, bT_hism, bT_hks, iev_lit, iev_var, iev_add, iev_sub, iev_mul, iev_wrap, iev_ite, iev_hI, iev_hP, iev_hmlen, sev_ite, sev_slit, sev_sof, sev_svar, TV.ev, SV.ev, CV.ev, List.map_cons, List.map_nil, Res.hl, cpTV, Cp.sv, Ck.cv, cpSVs, Cp.len, Ck.len, newHs_zero, newHs_one, roots_ne, eg0, er0, eg1, er1, eg2, er2, eg3, er3]
    intro q1 g1 p1 q2 g2 p2
    have hrg := hx.rng
    have r1 : 0 ≤ ρ.i 1 ∧ ρ.i 1 < 18446744073709551616 := hrg (.int .u64 (ρ.i 1)) (List.mem_of_getElem? (i := 1) rfl)
    have r36 : 0 ≤ ρ.i 36 ∧ ρ.i 36 < 18446744073709551616 := hrg (.int .u64 (ρ.i 36)) (List.mem_of_getElem? (i := 36) rfl)
    have r57 : 0 ≤ ρ.i 57 ∧ ρ.i 57 < 18446744073709551616 := hrg (.int .u64 (ρ.i 57)) (List.mem_of_getElem? (i := 54) rfl)
    have r58 : 0 ≤ ρ.i 58 ∧ ρ.i 58 < 18446744073709551616 := hrg (.int .u64 (ρ.i 58)) (List.mem_of_getElem? (i := 55) rfl)
    have r59 : 0 ≤ ρ.i 59 ∧ ρ.i 59 < 18446744073709551616 := hrg (.int .u64 (ρ.i 59)) (List.mem_of_getElem? (i := 56) rfl)
    have r60 : 0 ≤ ρ.i 60 ∧ ρ.i 60 < 18446744073709551616 := hrg (.int .u64 (ρ.i 60)) (List.mem_of_getElem? (i := 57) rfl)
    have r61 : 0 ≤ ρ.i 61 ∧ ρ.i 61 < 18446744073709551616 := hrg (.int .u64 (ρ.i 61)) (List.mem_of_getElem? (i := 58) rfl)
    have r62 : 0 ≤ ρ.i 62 ∧ ρ.i 62 < 18446744073709551616 := hrg (.int .u64 (ρ.i 62)) (List.mem_of_getElem? (i := 59) rfl)
    have hlen : (ρ.i 55).toNat = h.t.length := rd_len hx.tok
    have G2 : Agree 131 ρ q2 := g1.trans (g2.mono (by omega))
    have P2 : 0 ≤ q2.i 131 := by rw [g2.i 131 (by omega)]; exact p1
    have h2 : OutAt (Hl.one (q2.i 132).toNat (Obj.cells #[Value.slice (slP (-1) 0) (Int.toNat 0) (Int.toNat 0), Value.bool (bev q2 E.ff)] 124 (0, 0))) (Value.pointer (slP (q2.i 132) 0)) [] false := by rw [slP_pos p2]; exact OutAt.new _
    have l2 : ([] : List Int).length ≤ 0 := Nat.le_refl 0
    rw [G2.i 0 (by omega)]
    refine numStep h2 (u64_in _) (by omega) fun q3 g3 h3 => ?_
    have G3 : Agree 131 ρ q3 := G2.trans (g3.mono (by omega))
    have P3 : 0 ≤ q3.i 131 := by rw [g3.i 131 (by omega)]; exact P2
    rw [← g3.i 132 (by omega)] at h3
    have h3 : OutAt (q3.h _) (.pointer (slP (q3.i 132) 0)) (numB (u64N (ρ.i 0))) false := h3
    have b3 : (numB (u64N (ρ.i 0))).length ≤ 10 := lenB (u64N_lt _)
    have l3 := Nat.add_le_add l2 b3
    have l3 := b3
    rw [G3.i 1 (by omega)]
    refine numStep h3 r1 (by omega) fun q4 g4 h4 => ?_
    have G4 : Agree 131 ρ q4 := G3.trans (g4.mono (by omega))
    have P4 : 0 ≤ q4.i 131 := by rw [g4.i 131 (by omega)]; exact P3
    rw [← g4.i 132 (by omega)] at h4
    have h4 : OutAt (q4.h _) (.pointer (slP (q4.i 132) 0)) (numB (u64N (ρ.i 0)) ++ numB (ρ.i 1).toNat) false := h4
    have b4 : (numB (ρ.i 1).toNat).length ≤ 10 := lenB (z := (ρ.i 1).toNat) (by omega)
    have l4 := Nat.add_le_add l3 b4
    rw [← List.length_append] at l4
    have rd4 := rdB_row (n := 32) P4 (by rw [hrow_ag (G4.mono (by omega))]; exact hx.ok) k_prev
    rw [hrow_ag (G4.mono (by omega))] at rd4
    refine rawStep h4 rd4.w (by omega) (by rw [segI_len]; omega) fun q5 g5 h5 => ?_
    have G5 : Agree 131 ρ q5 := G4.trans (g5.mono (by omega))
    have P5 : 0 ≤ q5.i 131 := by rw [g5.i 131 (by omega)]; exact P4
    rw [← g5.i 132 (by omega)] at h5
    have h5 : OutAt (q5.h _) (.pointer (slP (q5.i 132) 0)) (numB (u64N (ρ.i 0)) ++ numB (ρ.i 1).toNat ++ segI (hrow ρ 0) 2 32) false := h5
    have b5 : (segI (hrow ρ 0) 2 32).length ≤ 32 := Nat.le_of_eq (segI_len _ _ _)
    have l5 := Nat.add_le_add l4 b5
    rw [← List.length_append] at l5
    rw [G5.i 34 (by omega)]
    refine numStep h5 (u64_in _) (by omega) fun q6 g6 h6 => ?_
    have G6 : Agree 131 ρ q6 := G5.trans (g6.mono (by omega))
    have P6 : 0 ≤ q6.i 131 := by rw [g6.i 131 (by omega)]; exact P5
    rw [← g6.i 132 (by omega)] at h6
    have h6 : OutAt (q6.h _) (.pointer (slP (q6.i 132) 0)) (numB (u64N (ρ.i 0)) ++ numB (ρ.i 1).toNat ++ segI (hrow ρ 0) 2 32 ++ numB (u64N (ρ.i 34))) false := h6
    have b6 : (numB (u64N (ρ.i 34))).length ≤ 10 := lenB (u64N_lt _)
    have l6 := Nat.add_le_add l5 b6
    rw [← List.length_append] at l6
    rw [bev_bvar, G6.b 35 (by omega)]
    refine flagStep h6 (by omega) fun q7 g7 h7 => ?_
    have G7 : Agree 131 ρ q7 := G6.trans (g7.mono (by omega))
    have P7 : 0 ≤ q7.i 131 := by rw [g7.i 131 (by omega)]; exact P6
    rw [← g7.i 132 (by omega)] at h7
    have h7 : OutAt (q7.h _) (.pointer (slP (q7.i 132) 0)) (numB (u64N (ρ.i 0)) ++ numB (ρ.i 1).toNat ++ segI (hrow ρ 0) 2 32 ++ numB (u64N (ρ.i 34)) ++ flagB (ρ.b 35)) false := h7
    have b7 : (flagB (ρ.b 35)).length ≤ 1 := Nat.le_refl 1
    have l7 := Nat.add_le_add l6 b7
    rw [← List.length_append] at l7
    rw [G7.i 36 (by omega)]
    refine numStep h7 r36 (by omega) fun q8 g8 h8 => ?_
    have G8 : Agree 131 ρ q8 := G7.trans (g8.mono (by omega))
    have P8 : 0 ≤ q8.i 131 := by rw [g8.i 131 (by omega)]; exact P7
    rw [← g8.i 132 (by omega)] at h8
    have h8 : OutAt (q8.h _) (.pointer (slP (q8.i 132) 0)) (numB (u64N (ρ.i 0)) ++ numB (ρ.i 1).toNat ++ segI (hrow ρ 0) 2 32 ++ numB (u64N (ρ.i 34)) ++ flagB (ρ.b 35) ++ numB (ρ.i 36).toNat) false := h8
    have b8 : (numB (ρ.i 36).toNat).length ≤ 10 := lenB (z := (ρ.i 36).toNat) (by omega)
    have l8 := Nat.add_le_add l7 b8
    rw [← List.length_append] at l8
    have rd8 := rdB_row (n := 16) P8 (by rw [hrow_ag (G8.mono (by omega))]; exact hx.ok) k_item
    rw [hrow_ag (G8.mono (by omega))] at rd8
    refine rawStep h8 rd8.w (by omega) (by rw [segI_len]; omega) fun q9 g9 h9 => ?_
    have G9 : Agree 131 ρ q9 := G8.trans (g9.mono (by omega))
    have P9 : 0 ≤ q9.i 131 := by rw [g9.i 131 (by omega)]; exact P8
    rw [← g9.i 132 (by omega)] at h9
    have h9 : OutAt (q9.h _) (.pointer (slP (q9.i 132) 0)) (numB (u64N (ρ.i 0)) ++ numB (ρ.i 1).toNat ++ segI (hrow ρ 0) 2 32 ++ numB (u64N (ρ.i 34)) ++ flagB (ρ.b 35) ++ numB (ρ.i 36).toNat ++ segI (hrow ρ 0) 37 16) false := h9
    have b9 : (segI (hrow ρ 0) 37 16).length ≤ 16 := Nat.le_of_eq (segI_len _ _ _)
    have l9 := Nat.add_le_add l8 b9
    rw [← List.length_append] at l9
    rw [G9.i 55 (by omega)]
    refine ⟨n55, ?_⟩
    have ew : IntKind.u64.wrap (ρ.i 55) = h.t.length := by rw [wu64 (by omega) (by omega)]; omega
    rw [ew]
    refine numStep h9 (by omega) (by omega) fun q10 g10 h10 => ?_
    rw [Int.toNat_natCast] at h10
    have G10 : Agree 131 ρ q10 := G9.trans (g10.mono (by omega))
    have P10 : 0 ≤ q10.i 131 := by rw [g10.i 131 (by omega)]; exact P9
    rw [← g10.i 132 (by omega)] at h10
    have h10 : OutAt (q10.h _) (.pointer (slP (q10.i 132) 0)) (numB (u64N (ρ.i 0)) ++ numB (ρ.i 1).toNat ++ segI (hrow ρ 0) 2 32 ++ numB (u64N (ρ.i 34)) ++ flagB (ρ.b 35) ++ numB (ρ.i 36).toNat ++ segI (hrow ρ 0) 37 16 ++ numB h.t.length) false := h10
    have b10 : (numB h.t.length).length ≤ 10 := lenB (z := h.t.length) (by omega)
    have l10 := Nat.add_le_add l9 b10
    rw [← List.length_append] at l10
    have hA : OutAt (q10.h 147) (.pointer (slP (q10.i 132) 0)) (coreA (hrow ρ 0) h.t.length) false := h10
    have lA : (coreA (hrow ρ 0) h.t.length).length ≤ 99 := l10
    refine ⟨⟨0, rfl, Nat.zero_le _, ?_⟩, fun q g ⟨i, ei, hi, hO⟩ => ?_⟩
    · show OutAt (q10.h 147) (.pointer (slP (q10.i 132) 0)) (coreA (hrow ρ 0) h.t.length ++ (h.t.take 0).flatten) false
      rw [List.take_zero, List.flatten_nil, List.append_nil]; exact hA
    have G : Agree 131 ρ q := G10.trans (g.mono (by omega))
    have P : 0 ≤ q.i 131 := by rw [g.i 131 (by omega)]; exact P10
    have ht16 : ∀ t ∈ h.t, t.length = 16 := fun t ht => (hx.byte.2 t ht).1
    have lF : ∀ i, i ≤ h.t.length → ((h.t.take i).flatten).length ≤ 128 := fun i hi => by
      rw [flat16 (fun t ht => ht16 t (List.mem_of_mem_take ht)), List.length_take]; omega
    rw [G.i 55 (by omega), ei]
    refine ⟨fun hlt => ?_, fun hge => ?_⟩
    · have hiT : i < h.t.length := by omega
      obtain ⟨x, y, c, eS, hy, hrows⟩ := id hx.tok
      have eS : Value.slice (slP (ρ.i 53) (ρ.i 54)) (ρ.i 55).toNat (ρ.i 56).toNat = .slice (slP x y) (h.t.map bys).length c := eS
      rcases hrows with hn | ⟨hx0, hc⟩
      · rw [List.map_eq_nil_iff] at hn
        rw [hn] at hiT; cases hiT
      simp only [Value.slice.injEq] at eS
      obtain ⟨hx53, hy54⟩ := slP_eq hx0 hy n54 eS.1
      have ht := List.getElem?_eq_getElem hiT
      have m1 := hx.byte.2 _ (List.mem_of_getElem? ht)
      obtain ⟨b1, r1⟩ := tok_at (ρ := q) (h := 130) (X := .var 53) (Y := (E.var 54).add ((E.var 201).mul (E.lit 16))) hx0 hy hc ht m1.1 (by rw [G.h 130 (by omega), w130]) (by rw [iev_var, G.i 53 (by omega), hx53]) (by
        simp only [iev_add, iev_mul, iev_var, iev_lit]
        rw [G.i 54 (by omega), hy54, ei])
      rw [G.i 53 (by omega), G.i 54 (by omega), G.h 130 (by omega), w130, hx53, hy54]
      refine ⟨hx0, hy, by omega, b1, fun q1 g1 p210 => ?_⟩
      have r1' : (romCells 130 (E.var 53) ((E.var 54).add ((E.var 201).mul (E.lit 16))) 0 (List.replicate 16 (Kd.int .u8))).map (CV.ev q1) = bys h.t[i] := by
        have := tok_at (ρ := q1) (h := 130) (X := .var 53) (Y := (E.var 54).add ((E.var 201).mul (E.lit 16))) hx0 hy hc ht m1.1 (by rw [g1.h 130 (by omega), G.h 130 (by omega), w130]) (by rw [iev_var, g1.i 53 (by omega), G.i 53 (by omega), hx53]) (by
          simp only [iev_add, iev_mul, iev_var, iev_lit]
          rw [g1.i 54 (by omega), g1.i 201 (by omega), G.i 54 (by omega), hy54, ei])
        exact this.2
      have rdT := rdB_blk (q := q1) (T := 97) (l := h.t[i]) (a := 210) (o := 0) (n := 16) (c := 16) p210 (cs := romCells 130 (E.var 53) ((E.var 54).add ((E.var 201).mul (E.lit 16))) 0 (List.replicate 16 (Kd.int .u8))) (by
        intro j z hz
        rw [r1', Nat.zero_add]; unfold bys; rw [List.getElem?_map, hz]; rfl) m1.1.symm
      rw [← g1.i 132 (by omega), ← g1.h 202 (by omega)] at hO
      have := lF i hi
      refine rawStep hO rdT.w (by rw [List.length_append]; omega) (by omega) fun q2 g2 h2 => ?_
      rw [← g2.i 132 (by omega)] at h2
      have ew : IntKind.i64.wrap (q2.i 201 + 1) = ((i + 1 : Nat) : Int) := by rw [g2.i 201 (by omega), g1.i 201 (by omega), ei, IntWalk.i64_in _ (by omega)]; omega
      refine ⟨⟨i + 1, ew, by omega, ?_⟩, ?_⟩
      · show OutAt (q2.h 211) (.pointer (slP (q2.i 132) 0)) _ false
        rw [List.take_add_one, ht, Option.toList_some, List.flatten_append, List.flatten_cons, List.flatten_nil, List.append_nil, ← List.append_assoc]
        exact h2
      · show ((h.t.length : Int) - IntKind.i64.wrap (q2.i 201 + 1)).toNat < _
        rw [ew]; omega
    have hi' : i = h.t.length := by omega
    rw [hi', List.take_length] at hO
    have lF := lF h.t.length (Nat.le_refl _)
    rw [List.take_length] at lF
    have l20 := Nat.add_le_add lA lF
    rw [← List.length_append] at l20
    have h20 := hO; have G20 := G; have P20 := P
    clear hO G P hA lA h2 l2 h3 l3 h4 l4 h5 l5 h6 l6 h7 l7 h8 l8 h9 l9 h10 l10
    rw [G20.i 57 (by omega)]
    refine numStep h20 r57 (by omega) fun q21 g21 h21 => ?_
    have G21 : Agree 131 ρ q21 := G20.trans (g21.mono (by omega))
    have P21 : 0 ≤ q21.i 131 := by rw [g21.i 131 (by omega)]; exact P20
    rw [← g21.i 132 (by omega)] at h21
    have h21 : OutAt (q21.h _) (.pointer (slP (q21.i 132) 0)) (coreA (hrow ρ 0) h.t.length ++ h.t.flatten ++ numB (ρ.i 57).toNat) false := h21
    have b21 : (numB (ρ.i 57).toNat).length ≤ 10 := lenB (z := (ρ.i 57).toNat) (by omega)
    have l21 := Nat.add_le_add l20 b21
    rw [← List.length_append] at l21
    rw [G21.i 58 (by omega)]
    refine numStep h21 r58 (by omega) fun q22 g22 h22 => ?_
    have G22 : Agree 131 ρ q22 := G21.trans (g22.mono (by omega))
    have P22 : 0 ≤ q22.i 131 := by rw [g22.i 131 (by omega)]; exact P21
    rw [← g22.i 132 (by omega)] at h22
    have h22 : OutAt (q22.h _) (.pointer (slP (q22.i 132) 0)) (coreA (hrow ρ 0) h.t.length ++ h.t.flatten ++ numB (ρ.i 57).toNat ++ numB (ρ.i 58).toNat) false := h22
    have b22 : (numB (ρ.i 58).toNat).length ≤ 10 := lenB (z := (ρ.i 58).toNat) (by omega)
    have l22 := Nat.add_le_add l21 b22
    rw [← List.length_append] at l22
    rw [G22.i 59 (by omega)]
    refine numStep h22 r59 (by omega) fun q23 g23 h23 => ?_
    have G23 : Agree 131 ρ q23 := G22.trans (g23.mono (by omega))
    have P23 : 0 ≤ q23.i 131 := by rw [g23.i 131 (by omega)]; exact P22
    rw [← g23.i 132 (by omega)] at h23
    have h23 : OutAt (q23.h _) (.pointer (slP (q23.i 132) 0)) (coreA (hrow ρ 0) h.t.length ++ h.t.flatten ++ numB (ρ.i 57).toNat ++ numB (ρ.i 58).toNat ++ numB (ρ.i 59).toNat) false := h23
    have b23 : (numB (ρ.i 59).toNat).length ≤ 10 := lenB (z := (ρ.i 59).toNat) (by omega)
    have l23 := Nat.add_le_add l22 b23
    rw [← List.length_append] at l23
    rw [G23.i 60 (by omega)]
    refine numStep h23 r60 (by omega) fun q24 g24 h24 => ?_
    have G24 : Agree 131 ρ q24 := G23.trans (g24.mono (by omega))
    have P24 : 0 ≤ q24.i 131 := by rw [g24.i 131 (by omega)]; exact P23
    rw [← g24.i 132 (by omega)] at h24
    have h24 : OutAt (q24.h _) (.pointer (slP (q24.i 132) 0)) (coreA (hrow ρ 0) h.t.length ++ h.t.flatten ++ numB (ρ.i 57).toNat ++ numB (ρ.i 58).toNat ++ numB (ρ.i 59).toNat ++ numB (ρ.i 60).toNat) false := h24
    have b24 : (numB (ρ.i 60).toNat).length ≤ 10 := lenB (z := (ρ.i 60).toNat) (by omega)
    have l24 := Nat.add_le_add l23 b24
    rw [← List.length_append] at l24
    rw [G24.i 61 (by omega)]
    refine numStep h24 r61 (by omega) fun q25 g25 h25 => ?_
    have G25 : Agree 131 ρ q25 := G24.trans (g25.mono (by omega))
    have P25 : 0 ≤ q25.i 131 := by rw [g25.i 131 (by omega)]; exact P24
    rw [← g25.i 132 (by omega)] at h25
    have h25 : OutAt (q25.h _) (.pointer (slP (q25.i 132) 0)) (coreA (hrow ρ 0) h.t.length ++ h.t.flatten ++ numB (ρ.i 57).toNat ++ numB (ρ.i 58).toNat ++ numB (ρ.i 59).toNat ++ numB (ρ.i 60).toNat ++ numB (ρ.i 61).toNat) false := h25
    have b25 : (numB (ρ.i 61).toNat).length ≤ 10 := lenB (z := (ρ.i 61).toNat) (by omega)
    have l25 := Nat.add_le_add l24 b25
    rw [← List.length_append] at l25
    rw [G25.i 62 (by omega)]
    refine numStep h25 r62 (by omega) fun q26 g26 h26 => ?_
    have G26 : Agree 131 ρ q26 := G25.trans (g26.mono (by omega))
    have P26 : 0 ≤ q26.i 131 := by rw [g26.i 131 (by omega)]; exact P25
    rw [← g26.i 132 (by omega)] at h26
    have h26 : OutAt (q26.h _) (.pointer (slP (q26.i 132) 0)) (coreA (hrow ρ 0) h.t.length ++ h.t.flatten ++ numB (ρ.i 57).toNat ++ numB (ρ.i 58).toNat ++ numB (ρ.i 59).toNat ++ numB (ρ.i 60).toNat ++ numB (ρ.i 61).toNat ++ numB (ρ.i 62).toNat) false := h26
    have b26 : (numB (ρ.i 62).toNat).length ≤ 10 := lenB (z := (ρ.i 62).toNat) (by omega)
    have l26 := Nat.add_le_add l25 b26
    rw [← List.length_append] at l26
    have rd26 := rdB_row (n := 32) P26 (by rw [hrow_ag (G26.mono (by omega))]; exact hx.ok) k_sum
    rw [hrow_ag (G26.mono (by omega))] at rd26
    refine rawStep h26 rd26.w (by omega) (by rw [segI_len]; omega) fun q27 g27 h27 => ?_
    have G27 : Agree 131 ρ q27 := G26.trans (g27.mono (by omega))
    have P27 : 0 ≤ q27.i 131 := by rw [g27.i 131 (by omega)]; exact P26
    rw [← g27.i 132 (by omega)] at h27
    have h27 : OutAt (q27.h _) (.pointer (slP (q27.i 132) 0)) (coreA (hrow ρ 0) h.t.length ++ h.t.flatten ++ numB (ρ.i 57).toNat ++ numB (ρ.i 58).toNat ++ numB (ρ.i 59).toNat ++ numB (ρ.i 60).toNat ++ numB (ρ.i 61).toNat ++ numB (ρ.i 62).toNat ++ segI (hrow ρ 0) 60 32) false := h27
    have b27 : (segI (hrow ρ 0) 60 32).length ≤ 32 := Nat.le_of_eq (segI_len _ _ _)
    have l27 := Nat.add_le_add l26 b27
    rw [← List.length_append] at l27
    rw [G27.i 95 (by omega)]
    refine numStep h27 (u64_in _) (by omega) fun q28 g28 h28 => ?_
    have G28 : Agree 131 ρ q28 := G27.trans (g28.mono (by omega))
    have P28 : 0 ≤ q28.i 131 := by rw [g28.i 131 (by omega)]; exact P27
    rw [← g28.i 132 (by omega)] at h28
    have h28 : OutAt (q28.h _) (.pointer (slP (q28.i 132) 0)) (coreA (hrow ρ 0) h.t.length ++ h.t.flatten ++ numB (ρ.i 57).toNat ++ numB (ρ.i 58).toNat ++ numB (ρ.i 59).toNat ++ numB (ρ.i 60).toNat ++ numB (ρ.i 61).toNat ++ numB (ρ.i 62).toNat ++ segI (hrow ρ 0) 60 32 ++ numB (u64N (ρ.i 95))) false := h28
    have b28 : (numB (u64N (ρ.i 95))).length ≤ 10 := lenB (u64N_lt _)
    have l28 := Nat.add_le_add l27 b28
    rw [← List.length_append] at l28
    refine ⟨⟨_, _, _, false, rfl, rfl, h28, by omega⟩, fun q g ⟨F, hp, hF, hn⟩ => ?_⟩
    have hO := end_post h28 hp
    have eR : endR (coreZ (hrow ρ 0) (coreA (hrow ρ 0) h.t.length ++ h.t.flatten)) false = (coreZ (hrow ρ 0) (coreA (hrow ρ 0) h.t.length ++ h.t.flatten), 0) := by
      unfold endR
      have l28 : (coreZ (hrow ρ 0) (coreA (hrow ρ 0) h.t.length ++ h.t.flatten)).length ≤ 1000 := Nat.le_trans l28 (by omega)
      rw [if_neg (by rintro (e | e); exact absurd e (by decide); omega)]
    have hO : OwB F _ _ (endR (coreZ (hrow ρ 0) (coreA (hrow ρ 0) h.t.length ++ h.t.flatten)) false).1 := hO
    rw [eR, ← core_row hx] at hO
    have hF : q.h 226 = F := hF (by simp [cpRoots, Cp.roots, Ck.root])
    refine fun _ => ⟨[], [3], rfl, rfl, ⟨⟨fun k => q.i (226 + k), fun _ => false, fun _ => .empty, fun _ => .tuple #[], fun _ => Hl.none⟩, rfl, hn.1, trivial⟩, _, R, h, rfl, rfl, hx, ?_⟩
    show OwB (hls [q.h 226]) _ _ _
    rw [hls_one, hF]; exact hO
end Go.Proofs.YtomdimlnggpgbaaDoor
namespace Go.Proofs.YtomdimlnggpgbaaDoor
open Go Go.Sx Go.Pk
def rCoreNd : Nd := .ext (.alloc 131) (.and (.pre (.call 0 132 [.sv (.one (.int .u64 (.wrap .u64 (.var 0))))] [] [])) (.ext (.call 0 132 [.sv (.one (.int .u64 (.wrap .u64 (.var 0))))] [] []) (.and (.pre (.call 0 136 [.sv (.one (.int .u64 (.var 1)))] [] [])) (.ext (.call 0 136 [.sv (.one (.int .u64 (.var 1)))] [] []) (.and (.pre (.app 140 5 1 1 (.sl (.var 132) (.var 133) (.var 134) (.var 135)) (.var 134) (.hp 132 [] [.var 132] []) (.seg 136 (.var 136) (.var 137) (.var 138)))) (.ext (.app 140 5 1 1 (.sl (.var 132) (.var 133) (.var 134) (.var 135)) (.var 134) (.hp 132 [] [.var 132] []) (.seg 136 (.var 136) (.var 137) (.var 138))) (.and (.pre (.app 142 5 1 1 (.sl (.var 140) (.lit 0) (.add (.var 134) (.var 138)) (.var 141)) (.add (.var 134) (.var 138)) (.hp 140 [132] [.var 140, .var 132] []) (.cvs (ckCVs 2 (List.replicate 32 (Ck.int .u8))) 32))) (.ext (.app 142 5 1 1 (.sl (.var 140) (.lit 0) (.add (.var 134) (.var 138)) (.var 141)) (.add (.var 134) (.var 138)) (.hp 140 [132] [.var 140, .var 132] []) (.cvs (ckCVs 2 (List.replicate 32 (Ck.int .u8))) 32)) (.and (.pre (.call 0 144 [.sv (.one (.int .u64 (.wrap .u64 (.var 34))))] [] [])) (.ext (.call 0 144 [.sv (.one (.int .u64 (.wrap .u64 (.var 34))))] [] []) (.and (.pre (.app 148 5 1 1 (.sl (.var 142) (.lit 0) (.add (.add (.var 134) (.var 138)) (.lit 32)) (.var 143)) (.add (.add (.var 134) (.var 138)) (.lit 32)) (.hp 142 [140, 132] [.var 142, .var 140, .var 132] []) (.seg 144 (.var 144) (.var 145) (.var 146)))) (.ext (.app 148 5 1 1 (.sl (.var 142) (.lit 0) (.add (.add (.var 134) (.var 138)) (.lit 32)) (.var 143)) (.add (.add (.var 134) (.var 138)) (.lit 32)) (.hp 142 [140, 132] [.var 142, .var 140, .var 132] []) (.seg 144 (.var 144) (.var 145) (.var 146))) (.and (.and (.imp (.bvar 35) (.inv 1 [⟨200, 0, .int .i64 (.lit 1)⟩] [])) (.imp (.not (.bvar 35)) (.inv 1 [⟨200, 0, .int .i64 (.lit 0)⟩] []))) (.havoc 0 1 150 (.ext (.alloc 201) (.and (.pre (.app 202 5 1 1 (.sl (.var 148) (.lit 0) (.add (.add (.add (.var 134) (.var 138)) (.lit 32)) (.var 146)) (.var 149)) (.add (.add (.add (.var 134) (.var 138)) (.lit 32)) (.var 146)) (.hp 148 [142, 140, 132] [.var 148, .var 142, .var 140, .var 132] []) (.cvs [.int .u8 (.var 200)] 1))) (.ext (.app 202 5 1 1 (.sl (.var 148) (.lit 0) (.add (.add (.add (.var 134) (.var 138)) (.lit 32)) (.var 146)) (.var 149)) (.add (.add (.add (.var 134) (.var 138)) (.lit 32)) (.var 146)) (.hp 148 [142, 140, 132] [.var 148, .var 142, .var 140, .var 132] []) (.cvs [.int .u8 (.var 200)] 1)) (.and (.pre (.call 0 204 [.sv (.one (.int .u64 (.var 36)))] [] [])) (.ext (.call 0 204 [.sv (.one (.int .u64 (.var 36)))] [] []) (.and (.pre (.app 208 5 1 1 (.sl (.var 202) (.lit 0) (.add (.add (.add (.add (.var 134) (.var 138)) (.lit 32)) (.var 146)) (.lit 1)) (.var 203)) (.add (.add (.add (.add (.var 134) (.var 138)) (.lit 32)) (.var 146)) (.lit 1)) (.hp 202 [148, 142, 140, 132] [.var 202, .var 148, .var 142, .var 140, .var 132] []) (.seg 204 (.var 204) (.var 205) (.var 206)))) (.ext (.app 208 5 1 1 (.sl (.var 202) (.lit 0) (.add (.add (.add (.add (.var 134) (.var 138)) (.lit 32)) (.var 146)) (.lit 1)) (.var 203)) (.add (.add (.add (.add (.var 134) (.var 138)) (.lit 32)) (.var 146)) (.lit 1)) (.hp 202 [148, 142, 140, 132] [.var 202, .var 148, .var 142, .var 140, .var 132] []) (.seg 204 (.var 204) (.var 205) (.var 206))) (.and (.pre (.app 210 5 1 1 (.sl (.var 208) (.lit 0) (.add (.add (.add (.add (.add (.var 134) (.var 138)) (.lit 32)) (.var 146)) (.lit 1)) (.var 206)) (.var 209)) (.add (.add (.add (.add (.add (.var 134) (.var 138)) (.lit 32)) (.var 146)) (.lit 1)) (.var 206)) (.hp 208 [202, 148, 142, 140, 132] [.var 208, .var 202, .var 148, .var 142, .var 140, .var 132] []) (.cvs (ckCVs 37 (List.replicate 16 (Ck.int .u8))) 16))) (.ext (.app 210 5 1 1 (.sl (.var 208) (.lit 0) (.add (.add (.add (.add (.add (.var 134) (.var 138)) (.lit 32)) (.var 146)) (.lit 1)) (.var 206)) (.var 209)) (.add (.add (.add (.add (.add (.var 134) (.var 138)) (.lit 32)) (.var 146)) (.lit 1)) (.var 206)) (.hp 208 [202, 148, 142, 140, 132] [.var 208, .var 202, .var 148, .var 142, .var 140, .var 132] []) (.cvs (ckCVs 37 (List.replicate 16 (Ck.int .u8))) 16)) (.and (.e (.le (.lit 0) (.var 55))) (.and (.pre (.call 0 212 [.sv (.one (.int .u64 (.wrap .u64 (.var 55))))] [] [])) (.ext (.call 0 212 [.sv (.one (.int .u64 (.wrap .u64 (.var 55))))] [] []) (.and (.pre (.app 216 5 1 1 (.sl (.var 210) (.lit 0) (.add (.add (.add (.add (.add (.add (.var 134) (.var 138)) (.lit 32)) (.var 146)) (.lit 1)) (.var 206)) (.lit 16)) (.var 211)) (.add (.add (.add (.add (.add (.add (.var 134) (.var 138)) (.lit 32)) (.var 146)) (.lit 1)) (.var 206)) (.lit 16)) (.hp 210 [208, 202, 148, 142, 140, 132] [.var 210, .var 208, .var 202, .var 148, .var 142, .var 140, .var 132] []) (.seg 212 (.var 212) (.var 213) (.var 214)))) (.ext (.app 216 5 1 1 (.sl (.var 210) (.lit 0) (.add (.add (.add (.add (.add (.add (.var 134) (.var 138)) (.lit 32)) (.var 146)) (.lit 1)) (.var 206)) (.lit 16)) (.var 211)) (.add (.add (.add (.add (.add (.add (.var 134) (.var 138)) (.lit 32)) (.var 146)) (.lit 1)) (.var 206)) (.lit 16)) (.hp 210 [208, 202, 148, 142, 140, 132] [.var 210, .var 208, .var 202, .var 148, .var 142, .var 140, .var 132] []) (.seg 212 (.var 212) (.var 213) (.var 214))) (.and (.inv 0 [⟨310, 0, .int .i64 (.var 216)⟩, ⟨311, 0, .int .i64 (.add (.add (.add (.add (.add (.add (.add (.var 134) (.var 138)) (.lit 32)) (.var 146)) (.lit 1)) (.var 206)) (.lit 16)) (.var 214))⟩, ⟨312, 0, .int .i64 (.var 217)⟩, ⟨313, 0, .int .i64 (.lit 0)⟩] [(314, some 216)]) (.havoc 0 0 218 (.and (.imp (.lt (.var 313) (.var 55)) (.and (.e (.le (.lit 0) (.var 53))) (.and (.e (.le (.lit 0) (.var 54))) (.and (.e (.le (.lit 0) (.var 313))) (.and (.pre (.app 320 5 1 1 (.sl (.var 310) (.lit 0) (.var 311) (.var 312)) (.var 311) (.hp 314 [] [.var 310] []) (.seg 130 (.var 53) (.add (.var 54) (.mul (.var 313) (.lit 16))) (.lit 16)))) (.ext (.app 320 5 1 1 (.sl (.var 310) (.lit 0) (.var 311) (.var 312)) (.var 311) (.hp 314 [] [.var 310] []) (.seg 130 (.var 53) (.add (.var 54) (.mul (.var 313) (.lit 16))) (.lit 16))) (.back 0 0 [⟨310, 0, .int .i64 (.var 320)⟩, ⟨311, 0, .int .i64 (.add (.var 311) (.lit 16))⟩, ⟨312, 0, .int .i64 (.var 321)⟩, ⟨313, 0, .int .i64 (.wrap .i64 (.add (.var 313) (.lit 1)))⟩] [(314, some 320)]))))))) (.imp (.not (.lt (.var 313) (.var 55))) (.and (.pre (.call 0 320 [.sv (.one (.int .u64 (.var 57)))] [] [])) (.ext (.call 0 320 [.sv (.one (.int .u64 (.var 57)))] [] []) (.and (.pre (.app 324 5 1 1 (.sl (.var 310) (.lit 0) (.var 311) (.var 312)) (.var 311) (.hp 314 [] [.var 310] []) (.seg 320 (.var 320) (.var 321) (.var 322)))) (.ext (.app 324 5 1 1 (.sl (.var 310) (.lit 0) (.var 311) (.var 312)) (.var 311) (.hp 314 [] [.var 310] []) (.seg 320 (.var 320) (.var 321) (.var 322))) (.and (.pre (.call 0 326 [.sv (.one (.int .u64 (.var 58)))] [] [])) (.ext (.call 0 326 [.sv (.one (.int .u64 (.var 58)))] [] []) (.and (.pre (.app 330 5 1 1 (.sl (.var 324) (.lit 0) (.add (.var 311) (.var 322)) (.var 325)) (.add (.var 311) (.var 322)) (.hp 324 [314] [.var 324, .var 310] []) (.seg 326 (.var 326) (.var 327) (.var 328)))) (.ext (.app 330 5 1 1 (.sl (.var 324) (.lit 0) (.add (.var 311) (.var 322)) (.var 325)) (.add (.var 311) (.var 322)) (.hp 324 [314] [.var 324, .var 310] []) (.seg 326 (.var 326) (.var 327) (.var 328))) (.and (.pre (.call 0 332 [.sv (.one (.int .u64 (.var 59)))] [] [])) (.ext (.call 0 332 [.sv (.one (.int .u64 (.var 59)))] [] []) (.and (.pre (.app 336 5 1 1 (.sl (.var 330) (.lit 0) (.add (.add (.var 311) (.var 322)) (.var 328)) (.var 331)) (.add (.add (.var 311) (.var 322)) (.var 328)) (.hp 330 [324, 314] [.var 330, .var 324, .var 310] []) (.seg 332 (.var 332) (.var 333) (.var 334)))) (.ext (.app 336 5 1 1 (.sl (.var 330) (.lit 0) (.add (.add (.var 311) (.var 322)) (.var 328)) (.var 331)) (.add (.add (.var 311) (.var 322)) (.var 328)) (.hp 330 [324, 314] [.var 330, .var 324, .var 310] []) (.seg 332 (.var 332) (.var 333) (.var 334))) (.and (.pre (.call 0 338 [.sv (.one (.int .u64 (.var 60)))] [] [])) (.ext (.call 0 338 [.sv (.one (.int .u64 (.var 60)))] [] []) (.and (.pre (.app 342 5 1 1 (.sl (.var 336) (.lit 0) (.add (.add (.add (.var 311) (.var 322)) (.var 328)) (.var 334)) (.var 337)) (.add (.add (.add (.var 311) (.var 322)) (.var 328)) (.var 334)) (.hp 336 [330, 324, 314] [.var 336, .var 330, .var 324, .var 310] []) (.seg 338 (.var 338) (.var 339) (.var 340)))) (.ext (.app 342 5 1 1 (.sl (.var 336) (.lit 0) (.add (.add (.add (.var 311) (.var 322)) (.var 328)) (.var 334)) (.var 337)) (.add (.add (.add (.var 311) (.var 322)) (.var 328)) (.var 334)) (.hp 336 [330, 324, 314] [.var 336, .var 330, .var 324, .var 310] []) (.seg 338 (.var 338) (.var 339) (.var 340))) (.and (.pre (.call 0 344 [.sv (.one (.int .u64 (.var 61)))] [] [])) (.ext (.call 0 344 [.sv (.one (.int .u64 (.var 61)))] [] []) (.and (.pre (.app 348 5 1 1 (.sl (.var 342) (.lit 0) (.add (.add (.add (.add (.var 311) (.var 322)) (.var 328)) (.var 334)) (.var 340)) (.var 343)) (.add (.add (.add (.add (.var 311) (.var 322)) (.var 328)) (.var 334)) (.var 340)) (.hp 342 [336, 330, 324, 314] [.var 342, .var 336, .var 330, .var 324, .var 310] []) (.seg 344 (.var 344) (.var 345) (.var 346)))) (.ext (.app 348 5 1 1 (.sl (.var 342) (.lit 0) (.add (.add (.add (.add (.var 311) (.var 322)) (.var 328)) (.var 334)) (.var 340)) (.var 343)) (.add (.add (.add (.add (.var 311) (.var 322)) (.var 328)) (.var 334)) (.var 340)) (.hp 342 [336, 330, 324, 314] [.var 342, .var 336, .var 330, .var 324, .var 310] []) (.seg 344 (.var 344) (.var 345) (.var 346))) (.and (.pre (.call 0 350 [.sv (.one (.int .u64 (.var 62)))] [] [])) (.ext (.call 0 350 [.sv (.one (.int .u64 (.var 62)))] [] []) (.and (.pre (.app 354 5 1 1 (.sl (.var 348) (.lit 0) (.add (.add (.add (.add (.add (.var 311) (.var 322)) (.var 328)) (.var 334)) (.var 340)) (.var 346)) (.var 349)) (.add (.add (.add (.add (.add (.var 311) (.var 322)) (.var 328)) (.var 334)) (.var 340)) (.var 346)) (.hp 348 [342, 336, 330, 324, 314] [.var 348, .var 342, .var 336, .var 330, .var 324, .var 310] []) (.seg 350 (.var 350) (.var 351) (.var 352)))) (.ext (.app 354 5 1 1 (.sl (.var 348) (.lit 0) (.add (.add (.add (.add (.add (.var 311) (.var 322)) (.var 328)) (.var 334)) (.var 340)) (.var 346)) (.var 349)) (.add (.add (.add (.add (.add (.var 311) (.var 322)) (.var 328)) (.var 334)) (.var 340)) (.var 346)) (.hp 348 [342, 336, 330, 324, 314] [.var 348, .var 342, .var 336, .var 330, .var 324, .var 310] []) (.seg 350 (.var 350) (.var 351) (.var 352))) (.and (.pre (.app 356 5 1 1 (.sl (.var 354) (.lit 0) (.add (.add (.add (.add (.add (.add (.var 311) (.var 322)) (.var 328)) (.var 334)) (.var 340)) (.var 346)) (.var 352)) (.var 355)) (.add (.add (.add (.add (.add (.add (.var 311) (.var 322)) (.var 328)) (.var 334)) (.var 340)) (.var 346)) (.var 352)) (.hp 354 [348, 342, 336, 330, 324, 314] [.var 354, .var 348, .var 342, .var 336, .var 330, .var 324, .var 310] []) (.cvs (ckCVs 63 (List.replicate 32 (Ck.int .u8))) 32))) (.ext (.app 356 5 1 1 (.sl (.var 354) (.lit 0) (.add (.add (.add (.add (.add (.add (.var 311) (.var 322)) (.var 328)) (.var 334)) (.var 340)) (.var 346)) (.var 352)) (.var 355)) (.add (.add (.add (.add (.add (.add (.var 311) (.var 322)) (.var 328)) (.var 334)) (.var 340)) (.var 346)) (.var 352)) (.hp 354 [348, 342, 336, 330, 324, 314] [.var 354, .var 348, .var 342, .var 336, .var 330, .var 324, .var 310] []) (.cvs (ckCVs 63 (List.replicate 32 (Ck.int .u8))) 32)) (.and (.pre (.call 0 358 [.sv (.one (.int .u64 (.wrap .u64 (.var 95))))] [] [])) (.ext (.call 0 358 [.sv (.one (.int .u64 (.wrap .u64 (.var 95))))] [] []) (.and (.pre (.app 362 5 1 1 (.sl (.var 356) (.lit 0) (.add (.add (.add (.add (.add (.add (.add (.var 311) (.var 322)) (.var 328)) (.var 334)) (.var 340)) (.var 346)) (.var 352)) (.lit 32)) (.var 357)) (.add (.add (.add (.add (.add (.add (.add (.var 311) (.var 322)) (.var 328)) (.var 334)) (.var 340)) (.var 346)) (.var 352)) (.lit 32)) (.hp 356 [354, 348, 342, 336, 330, 324, 314] [.var 356, .var 354, .var 348, .var 342, .var 336, .var 330, .var 324, .var 310] []) (.seg 358 (.var 358) (.var 359) (.var 360)))) (.ext (.app 362 5 1 1 (.sl (.var 356) (.lit 0) (.add (.add (.add (.add (.add (.add (.add (.var 311) (.var 322)) (.var 328)) (.var 334)) (.var 340)) (.var 346)) (.var 352)) (.lit 32)) (.var 357)) (.add (.add (.add (.add (.add (.add (.add (.var 311) (.var 322)) (.var 328)) (.var 334)) (.var 340)) (.var 346)) (.var 352)) (.lit 32)) (.hp 356 [354, 348, 342, 336, 330, 324, 314] [.var 356, .var 354, .var 348, .var 342, .var 336, .var 330, .var 324, .var 310] []) (.seg 358 (.var 358) (.var 359) (.var 360))) (.post [.ro 130 [.var 53] false, .dead, .hp 362 [356, 354, 348, 342, 336, 330, 324, 314] [.var 362, .var 356, .var 354, .var 348, .var 342, .var 336, .var 330, .var 324, .var 310] [], .hp 136 [] [.var 136] [], .hp 144 [] [.var 144] [], .dead, .hp 204 [] [.var 204] [], .hp 212 [] [.var 212] [], .hp 320 [] [.var 320] [], .hp 326 [] [.var 326] [], .hp 332 [] [.var 332] [], .hp 338 [] [.var 338] [], .hp 344 [] [.var 344] [], .hp 350 [] [.var 350] [], .hp 358 [] [.var 358] []] (.sv (.one (.sl (.var 362) (.lit 0) (.add (.add (.add (.add (.add (.add (.add (.add (.var 311) (.var 322)) (.var 328)) (.var 334)) (.var 340)) (.var 346)) (.var 352)) (.lit 32)) (.var 360)) (.var 363)))))))))))))))))))))))))))))))))))))))))))))))))))))))))))))))))))
def rcΓ : List Sx.Spec := [rnumS]
theorem rcΓ_ok : ∀ t ∈ rcΓ, t.OK Tryd.prog := fun t ht => by
  simp only [rcΓ, List.mem_cons, List.mem_nil_iff, or_false] at ht
  subst ht; exact rnumS_ok
theorem rcg0 : rcΓ[0]? = some rnumS := rfl
theorem rcr0 : rnumS.res = [.one .sl] := rfl
theorem rcc0 (n : Nat) : (cpRoots n [Cp.one .sl] ≠ []) = True := by simp [cpRoots, Cp.roots, Ck.root]
def rCoreW : Walk Tryd.prog rcΓ 120 where
  Λ := fun p => if cutAt p [120, 1, 1, 1, 1, 1, 1, 0] then some ⟨1, [(4, TI .u8 (.var 200))], [], 201⟩ else if decide (p.length = 15) && !(p.head? == some 99) then some ⟨0, [(3, .sv (.one (.sl (.var 310) (.lit 0) (.var 311) (.var 312)))), (5, TI .i64 (.var 313))], [(2, .hp 314 [] [.var 310] [])], 320⟩ else none
  args := (cpSVs 0 [.agg hk2]).map .sv
  mem := [.ro 130 [.var 53] false]
  nv := 131
  nd := rCoreNd
  ok := by kernel_rfl
theorem rnStep {q : Env} {n : Nat} {z : Int} {K : Env → Prop} (hz : 0 ≤ z ∧ z < 18446744073709551616) (k : ∀ q', Agree n q q' → q'.i (n + 2) = (numB z.toNat).length → -1 ≤ q'.i n → 0 ≤ q'.i (n + 1) → OwB (q'.h n) 5 (.slice (slP (q'.i n) (q'.i (n + 1))) (((numB z.toNat).length : Int)).toNat (q'.i (n + 3)).toNat) (numB z.toNat) → K q') :
    rnumS.pre [.int .u64 z] [] [] ∧ ∀ q', Agree n q q' → (∃ F, rnumS.post [.int .u64 z] [] [] (.slice (slP (q'.i n) (q'.i (n + 1))) (q'.i (n + 2)).toNat (q'.i (n + 3)).toNat) [] F ∧ (True → q'.h n = F) ∧ cpNorms n [.one .sl] q') → K q' := by
  refine ⟨⟨z, rfl, hz⟩, fun q' g ⟨F, ⟨z', hz', hO⟩, hF, hn, _⟩ => ?_⟩
  simp only [List.cons.injEq, Value.int.injEq, true_and, and_true] at hz'
  subst hz'
  have hn : -1 ≤ q'.i n ∧ 0 ≤ q'.i (n + 1) ∧ 0 ≤ q'.i (n + 2) ∧ 0 ≤ q'.i (n + 3) := hn
  rw [← hF trivial] at hO
  have e : (q'.i (n + 2)).toNat = (numB z.toNat).length := by
    obtain ⟨x, y, c, e, _⟩ := hO.rd
    simp only [Value.slice.injEq] at e
    exact e.2.1
  have e2 : q'.i (n + 2) = (numB z.toNat).length := by omega
  refine k q' g e2 hn.1 hn.2.1 ?_
  rw [← e2]; exact hO
theorem owB_app' {A B : Hl} {x y c x1 c1 : Int} {bs bs2 : List Int} (ho : OwB A 5 (.slice (slP x y) ((bs.length : Int)).toNat c.toNat) bs) {m : Nat} (hm : m = bs2.length)
    (happ : ∀ xs, OwnsH A 5 1 (.slice (slP x y) ((bs.length : Int)).toNat c.toNat) ((bs.length : Int)).toNat xs → OwnsH B 5 1 (.slice (slP x1 0) (((bs.length : Int)).toNat + m) c1.toNat) (((bs.length : Int)).toNat + m) (xs ++ bys bs2)) : OwB B 5 (.slice (slP x1 0) (((bs ++ bs2).length : Int)).toNat c1.toNat) (bs ++ bs2) := by
  have h1 : OwnsH A 5 1 (.slice (slP x y) ((bs.length : Int)).toNat c.toNat) ((bs.length : Int)).toNat (bys bs) := by
    have := ho
    unfold OwB at this
    rwa [Int.toNat_natCast] at this ⊢
  have h2 := happ _ h1
  unfold OwB
  rw [Int.toNat_natCast, List.length_append, bys_append]
  rw [Int.toNat_natCast, hm] at h2
  exact h2
theorem appSeg {q : Env} {n : Nat} {A S : Hl} {x y c sx sy : Int} {sc : Nat} {B b2 : List Int} {D : Env → Prop} {K : Env → Prop} (h : OwB A 5 (.slice (slP x y) ((B.length : Int)).toNat c.toNat) B) (hsx : -1 ≤ sx) (hsy : 0 ≤ sy) (h2 : RdB S (.slice (slP sx sy) b2.length sc) b2) (hl : B.length ≤ 900000) (hl2 : b2.length ≤ 90000)
    (k : ∀ q', Agree n q q' → -1 ≤ q'.i n → 0 ≤ q'.i (n + 1) → OwB (q'.h n) 5 (.slice (slP (q'.i n) 0) (((B ++ b2).length : Int)).toNat (q'.i (n + 1)).toNat) (B ++ b2) → K q') :
    ((∃ xs, OwnsH A 5 1 (.slice (slP x y) ((B.length : Int)).toNat c.toNat) ((B.length : Int)).toNat xs) ∧ 0 ≤ (B.length : Int) ∧ ((0 ≤ sx ∧ 0 ≤ sy ∧ 0 ≤ (b2.length : Int) ∧ ∀ j : Nat, j < ((b2.length : Int)).toNat → ∃ v, S.cell sx.toNat (sy.toNat + j) = some v ∧ v.oneCell' = true) ∨ (b2.length : Int) = 0) ∧ ((B.length : Int)).toNat + ((b2.length : Int)).toNat ≤ maxLen ∧ ((B.length : Int)).toNat + ((b2.length : Int)).toNat ≤ 140737488355328) ∧
    ∀ q', Agree n q q' → (-1 ≤ q'.i n ∧ 0 ≤ q'.i (n + 1) ∧ (∀ xs, OwnsH A 5 1 (.slice (slP x y) ((B.length : Int)).toNat c.toNat) ((B.length : Int)).toNat xs → OwnsH (q'.h n) 5 1 (.slice (slP (q'.i n) 0) (((B.length : Int)).toNat + ((b2.length : Int)).toNat) (q'.i (n + 1)).toNat) (((B.length : Int)).toNat + ((b2.length : Int)).toNat) (xs ++ segVals S sx.toNat sy.toNat ((b2.length : Int)).toNat)) ∧ D q') → K q' := by
  have hr : b2 = [] ∨ 0 ≤ sx ∧ ∀ j z, b2[j]? = some z → S.cell sx.toNat (sy.toNat + j) = some (.int .u8 z) := by
    have h2' : RdB S (.slice (slP sx sy) ((b2.length : Int)).toNat ((sc : Int)).toNat) b2 := by rw [Int.toNat_natCast, Int.toNat_natCast]; exact h2
    obtain ⟨_, hr⟩ := h2'.at hsx hsy (by omega)
    exact hr.imp (·.2) id
  obtain ⟨hok, hseg⟩ := seg_of (R := S) (x := sx) (y := sy) (l := (b2.length : Int)) rfl hsy hr
  refine ⟨⟨⟨bys B, ?_⟩, by omega, hok, by rw [Int.toNat_natCast, Int.toNat_natCast]; unfold maxLen; omega, by rw [Int.toNat_natCast, Int.toNat_natCast]; omega⟩, fun q' g ⟨a1, a2, a3, _⟩ => k q' g a1 a2 ?_⟩
  · have := h
    unfold OwB at this
    rwa [Int.toNat_natCast] at this ⊢
  · rw [hseg] at a3
    exact owB_app' h (Int.toNat_natCast _) a3
theorem appCvs {q : Env} {n m : Nat} {A : Hl} {x y c : Int} {B b2 : List Int} {vs : List Value} {D : Env → Prop} {K : Env → Prop} (h : OwB A 5 (.slice (slP x y) ((B.length : Int)).toNat c.toNat) B) (hv : vs = bys b2) (hm : m = b2.length) (hl : B.length ≤ 900000) (hl2 : b2.length ≤ 90000)
    (k : ∀ q', Agree n q q' → -1 ≤ q'.i n → 0 ≤ q'.i (n + 1) → OwB (q'.h n) 5 (.slice (slP (q'.i n) 0) (((B ++ b2).length : Int)).toNat (q'.i (n + 1)).toNat) (B ++ b2) → K q') :
    ((∃ xs, OwnsH A 5 1 (.slice (slP x y) ((B.length : Int)).toNat c.toNat) ((B.length : Int)).toNat xs) ∧ 0 ≤ (B.length : Int) ∧ ((B.length : Int)).toNat + m ≤ maxLen ∧ ((B.length : Int)).toNat + m ≤ 140737488355328) ∧
    ∀ q', Agree n q q' → (-1 ≤ q'.i n ∧ 0 ≤ q'.i (n + 1) ∧ (∀ xs, OwnsH A 5 1 (.slice (slP x y) ((B.length : Int)).toNat c.toNat) ((B.length : Int)).toNat xs → OwnsH (q'.h n) 5 1 (.slice (slP (q'.i n) 0) (((B.length : Int)).toNat + m) (q'.i (n + 1)).toNat) (((B.length : Int)).toNat + m) (xs ++ vs)) ∧ D q') → K q' := by
  refine ⟨⟨⟨bys B, ?_⟩, by omega, by rw [Int.toNat_natCast]; unfold maxLen; omega, by rw [Int.toNat_natCast]; omega⟩, fun q' g ⟨a1, a2, a3, _⟩ => k q' g a1 a2 ?_⟩
  · have := h
    unfold OwB at this
    rwa [Int.toNat_natCast] at this ⊢
  · rw [hv] at a3
    exact owB_app' h hm a3
theorem owRd {F : Hl} {p : Option Addr} {n : Nat} {c : Nat} {bs : List Int} (h : OwB F 5 (.slice p ((n : Int)).toNat c) bs) (hn : n = bs.length) : RdB F (.slice p bs.length c) bs := by
  subst hn
  have := h.rd
  rwa [Int.toNat_natCast] at this
theorem cv_prev (q : Env) : (ckCVs 2 (List.replicate 32 (Ck.int .u8))).map (CV.ev q) = bys (segI (hrow q 0) 2 32) := rfl
theorem cv_item (q : Env) : (ckCVs 37 (List.replicate 16 (Ck.int .u8))).map (CV.ev q) = bys (segI (hrow q 0) 37 16) := rfl
theorem cv_sum (q : Env) : (ckCVs 63 (List.replicate 32 (Ck.int .u8))).map (CV.ev q) = bys (segI (hrow q 0) 60 32) := rfl
theorem cv_code (q : Env) : (ckCVs 96 (List.replicate 32 (Ck.int .u8))).map (CV.ev q) = bys (segI (hrow q 0) 93 32) := rfl
theorem rCoreS_ok : (coreS 120).OK Tryd.prog := by
  refine Spec.of_fn (Γ := rcΓ) rcΓ_ok ?_
  rintro xs Hs Rs hl1 hl2 ⟨row, R, h, rfl, rfl, hx, h8⟩
  have e0 : Hs = [] := List.length_eq_zero_iff.1 hl1
  subst e0
  obtain ⟨ρ, rfl, w130, hnw, n54, n55, n56⟩ := hdr_env (R := R) hx.ok
  refine ⟨rCoreW, ρ, fun j q => if j = 1 then q.i 200 = (if ρ.b 35 = true then 1 else 0) else ∃ i : Nat, q.i 313 = i ∧ i ≤ h.t.length ∧ -1 ≤ q.i 310 ∧ 0 ≤ q.i 312 ∧ q.i 311 = ((coreA (hrow ρ 0) h.t.length ++ (h.t.take i).flatten).length : Int) ∧ OwB (q.h 314) 5 (.slice (slP (q.i 310) 0) (((coreA (hrow ρ 0) h.t.length ++ (h.t.take i).flatten).length : Int)).toNat (q.i 312).toNat) (coreA (hrow ρ 0) h.t.length ++ (h.t.take i).flatten), fun _ q => (h.t.length - q.i 313).toNat, rfl, ⟨?_, ?_, ?_, ?_⟩, (fun _ h => nomatch h), ?_⟩
  · intro r hr ho; simp [rCoreW] at hr; subst hr; cases ho
  · intro r hr ho; simp [rCoreW] at hr; subst hr; exact ⟨R, by simp, by show (ρ.h 130).le R; rw [w130]; exact Hl.le_refl _⟩
  · simp [rCoreW]
  · intro r hr; simp [rCoreW] at hr; subst hr; trivial
  · show Nd.holds _ _ _ rCoreNd
    unfold rCoreNd
    simp only [Nd.holds, X.pre, X.rel, X.n, Src.ok, Src.len, Src.vals, true_and, and_true, if_true, Nat.mul_one, Nat.add_zero, Nat.reduceAdd, List.length_cons, List.length_nil, bT_tt, bT_ff, bT_bvar, bT_not, bT_and, bT_or, bT_ite, bT_lt, bT_le, bT_eq, bT_beq, bT_seq, bT_hB, bT_his, bT_hby, bT_hism, bT_hks, iev_lit, iev_var, iev_add, iev_sub, iev_mul, iev_wrap, iev_ite, iev_hI, iev_hP, iev_hmlen, sev_ite, sev_slit, sev_sof, sev_svar, TV.ev, SV.ev, CV.ev, List.map_cons, List.map_nil, Res.hl, cpTV, Cp.sv, Ck.cv, cpSVs, Cp.len, Ck.len, newHs_zero, newHs_one, roots_ne, rcg0, rcr0, rcc0]
    intro q1 g1 p1
    have hrg := hx.rng
    have r1 : 0 ≤ ρ.i 1 ∧ ρ.i 1 < 18446744073709551616 := hrg (.int .u64 (ρ.i 1)) (List.mem_of_getElem? (i := 1) rfl)
    have r36 : 0 ≤ ρ.i 36 ∧ ρ.i 36 < 18446744073709551616 := hrg (.int .u64 (ρ.i 36)) (List.mem_of_getElem? (i := 36) rfl)
    have r57 : 0 ≤ ρ.i 57 ∧ ρ.i 57 < 18446744073709551616 := hrg (.int .u64 (ρ.i 57)) (List.mem_of_getElem? (i := 54) rfl)
    have r58 : 0 ≤ ρ.i 58 ∧ ρ.i 58 < 18446744073709551616 := hrg (.int .u64 (ρ.i 58)) (List.mem_of_getElem? (i := 55) rfl)
    have r59 : 0 ≤ ρ.i 59 ∧ ρ.i 59 < 18446744073709551616 := hrg (.int .u64 (ρ.i 59)) (List.mem_of_getElem? (i := 56) rfl)
    have r60 : 0 ≤ ρ.i 60 ∧ ρ.i 60 < 18446744073709551616 := hrg (.int .u64 (ρ.i 60)) (List.mem_of_getElem? (i := 57) rfl)
    have r61 : 0 ≤ ρ.i 61 ∧ ρ.i 61 < 18446744073709551616 := hrg (.int .u64 (ρ.i 61)) (List.mem_of_getElem? (i := 58) rfl)
    have r62 : 0 ≤ ρ.i 62 ∧ ρ.i 62 < 18446744073709551616 := hrg (.int .u64 (ρ.i 62)) (List.mem_of_getElem? (i := 59) rfl)
    have hlen : (ρ.i 55).toNat = h.t.length := rd_len hx.tok
    have G1 : Agree 131 ρ q1 := g1.mono (by omega)
    rw [G1.i 0 (by omega)]
    refine rnStep (u64_in _) fun q2 g2 N2 X2 Y2 h2 => ?_
    have G2 : Agree 131 ρ q2 := G1.trans (g2.mono (by omega))
    have N2 : q2.i 134 = ((numB (u64N (ρ.i 0))).length : Int) := N2
    have h2 : OwB (q2.h 132) _ (.slice (slP (q2.i 132) (q2.i 133)) (((numB (u64N (ρ.i 0))).length : Int)).toNat (q2.i 135).toNat) (numB (u64N (ρ.i 0))) := h2
    have b2 : (numB (u64N (ρ.i 0))).length ≤ 10 := lenB (u64N_lt (ρ.i 0))
    rw [G2.i 1 (by omega)]
    refine rnStep r1 fun q3 g3 N3 X3 Y3 h3 => ?_
    have G3 : Agree 131 ρ q3 := G2.trans (g3.mono (by omega))
    have N3 : q3.i 138 = ((numB (ρ.i 1).toNat).length : Int) := N3
    have h3 : OwB (q3.h 136) _ (.slice (slP (q3.i 136) (q3.i 137)) (((numB (ρ.i 1).toNat).length : Int)).toNat (q3.i 139).toNat) (numB (ρ.i 1).toNat) := h3
    have b3 : (numB (ρ.i 1).toNat).length ≤ 10 := lenB (z := (ρ.i 1).toNat) (by omega)
    rw [← g3.h 132 (by omega), ← g3.i 132 (by omega), ← g3.i 135 (by omega), ← g3.i 133 (by omega)] at h2
    rw [← g3.i 134 (by omega)] at N2
    rw [N2, N3]
    refine appSeg h2 X3 Y3 (owRd h3 rfl) (by omega) (by omega) fun q4 g4 A4 C4 h4 => ?_
    have G4 : Agree 131 ρ q4 := G3.trans (g4.mono (by omega))
    have h4 : OwB (q4.h 140) _ (.slice (slP (q4.i 140) 0) (((numB (u64N (ρ.i 0)) ++ numB (ρ.i 1).toNat).length : Int)).toNat (q4.i 141).toNat) (numB (u64N (ρ.i 0)) ++ numB (ρ.i 1).toNat) := h4
    have b4x : (numB (u64N (ρ.i 0)) ++ numB (ρ.i 1).toNat).length ≤ 20 := by rw [List.length_append]; exact Nat.add_le_add b2 b3
    have L4 : q4.i 134 + q4.i 138 = ((numB (u64N (ρ.i 0)) ++ numB (ρ.i 1).toNat).length : Int) := by rw [g4.i 134 (by omega), g4.i 138 (by omega), N2, N3, List.length_append (bs := numB (ρ.i 1).toNat)]; first | (rw [segI_len]; omega) | (show _ = ((_ + 1 : Nat) : Int); omega) | omega
    rw [L4]
    refine appCvs (b2 := segI (hrow ρ 0) 2 32) h4 (by rw [← hrow_ag (G4.mono (by omega))]; exact cv_prev q4) (segI_len _ _ _).symm (by omega) (by rw [segI_len]; omega) fun q5 g5 A5 C5 h5 => ?_
    have G5 : Agree 131 ρ q5 := G4.trans (g5.mono (by omega))
    have h5 : OwB (q5.h 142) _ (.slice (slP (q5.i 142) 0) (((numB (u64N (ρ.i 0)) ++ numB (ρ.i 1).toNat ++ segI (hrow ρ 0) 2 32).length : Int)).toNat (q5.i 143).toNat) (numB (u64N (ρ.i 0)) ++ numB (ρ.i 1).toNat ++ segI (hrow ρ 0) 2 32) := h5
    have b5x : (numB (u64N (ρ.i 0)) ++ numB (ρ.i 1).toNat ++ segI (hrow ρ 0) 2 32).length ≤ 52 := by rw [List.length_append]; exact Nat.add_le_add b4x (Nat.le_of_eq (segI_len _ _ _))
    have L5 : q5.i 134 + q5.i 138 + 32 = ((numB (u64N (ρ.i 0)) ++ numB (ρ.i 1).toNat ++ segI (hrow ρ 0) 2 32).length : Int) := by rw [g5.i 134 (by omega), g5.i 138 (by omega), L4, List.length_append (bs := segI (hrow ρ 0) 2 32)]; first | (rw [segI_len]; omega) | (show _ = ((_ + 1 : Nat) : Int); omega) | omega
    rw [G5.i 34 (by omega)]
    refine rnStep (u64_in _) fun q6 g6 N6 X6 Y6 h6 => ?_
    have G6 : Agree 131 ρ q6 := G5.trans (g6.mono (by omega))
    have N6 : q6.i 146 = ((numB (u64N (ρ.i 34))).length : Int) := N6
    have h6 : OwB (q6.h 144) _ (.slice (slP (q6.i 144) (q6.i 145)) (((numB (u64N (ρ.i 34))).length : Int)).toNat (q6.i 147).toNat) (numB (u64N (ρ.i 34))) := h6
    have b6 : (numB (u64N (ρ.i 34))).length ≤ 10 := lenB (u64N_lt (ρ.i 34))
    rw [← g6.h 142 (by omega), ← g6.i 142 (by omega), ← g6.i 143 (by omega)] at h5
    rw [← g6.i 134 (by omega), ← g6.i 138 (by omega)] at L5
    rw [L5, N6]
    refine appSeg h5 X6 Y6 (owRd h6 rfl) (by omega) (by omega) fun q7 g7 A7 C7 h7 => ?_
    have G7 : Agree 131 ρ q7 := G6.trans (g7.mono (by omega))
    have h7 : OwB (q7.h 148) _ (.slice (slP (q7.i 148) 0) (((numB (u64N (ρ.i 0)) ++ numB (ρ.i 1).toNat ++ segI (hrow ρ 0) 2 32 ++ numB (u64N (ρ.i 34))).length : Int)).toNat (q7.i 149).toNat) (numB (u64N (ρ.i 0)) ++ numB (ρ.i 1).toNat ++ segI (hrow ρ 0) 2 32 ++ numB (u64N (ρ.i 34))) := h7
    have b7x : (numB (u64N (ρ.i 0)) ++ numB (ρ.i 1).toNat ++ segI (hrow ρ 0) 2 32 ++ numB (u64N (ρ.i 34))).length ≤ 62 := by rw [List.length_append]; exact Nat.add_le_add b5x b6
    have L7 : q7.i 134 + q7.i 138 + 32 + q7.i 146 = ((numB (u64N (ρ.i 0)) ++ numB (ρ.i 1).toNat ++ segI (hrow ρ 0) 2 32 ++ numB (u64N (ρ.i 34))).length : Int) := by rw [g7.i 134 (by omega), g7.i 138 (by omega), g7.i 146 (by omega), L5, N6, List.length_append (bs := numB (u64N (ρ.i 34)))]; first | (rw [segI_len]; omega) | (show _ = ((_ + 1 : Nat) : Int); omega) | omega
    rw [G7.b 35 (by omega)]
    refine ⟨⟨fun hc => ?_, fun hc => ?_⟩, fun q8 g8 hcut => ?_⟩
    · show (1 : Int) = _
      rw [if_pos hc]
    · show (0 : Int) = _
      rw [if_neg hc]
    have G8 : Agree 131 ρ q8 := G7.trans (g8.mono (by omega))
    rw [← g8.h 148 (by omega), ← g8.i 148 (by omega), ← g8.i 149 (by omega)] at h7
    rw [← g8.i 134 (by omega), ← g8.i 138 (by omega), ← g8.i 146 (by omega)] at L7
    intro q9 g9 _
    rw [← g9.i 200 (by omega)] at hcut
    have G9 : Agree 131 ρ q9 := G8.trans (g9.mono (by omega))
    rw [← g9.h 148 (by omega), ← g9.i 148 (by omega), ← g9.i 149 (by omega)] at h7
    rw [← g9.i 134 (by omega), ← g9.i 138 (by omega), ← g9.i 146 (by omega)] at L7
    rw [L7]
    refine appCvs (b2 := flagB (ρ.b 35)) h7 (by show [Value.int .u8 (q9.i 200)] = _; rw [hcut]; rfl) rfl (by omega) (by show 1 ≤ 90000; omega) fun q10 g10 A10 C10 h10 => ?_
    have G10 : Agree 131 ρ q10 := G9.trans (g10.mono (by omega))
    have h10 : OwB (q10.h 202) _ (.slice (slP (q10.i 202) 0) (((numB (u64N (ρ.i 0)) ++ numB (ρ.i 1).toNat ++ segI (hrow ρ 0) 2 32 ++ numB (u64N (ρ.i 34)) ++ flagB (ρ.b 35)).length : Int)).toNat (q10.i 203).toNat) (numB (u64N (ρ.i 0)) ++ numB (ρ.i 1).toNat ++ segI (hrow ρ 0) 2 32 ++ numB (u64N (ρ.i 34)) ++ flagB (ρ.b 35)) := h10
    have b10x : (numB (u64N (ρ.i 0)) ++ numB (ρ.i 1).toNat ++ segI (hrow ρ 0) 2 32 ++ numB (u64N (ρ.i 34)) ++ flagB (ρ.b 35)).length ≤ 63 := by rw [List.length_append]; exact Nat.add_le_add b7x (Nat.le_refl 1)
    have L10 : q10.i 134 + q10.i 138 + 32 + q10.i 146 + 1 = ((numB (u64N (ρ.i 0)) ++ numB (ρ.i 1).toNat ++ segI (hrow ρ 0) 2 32 ++ numB (u64N (ρ.i 34)) ++ flagB (ρ.b 35)).length : Int) := by rw [g10.i 134 (by omega), g10.i 138 (by omega), g10.i 146 (by omega), L7, List.length_append (bs := flagB (ρ.b 35))]; first | (rw [segI_len]; omega) | (show _ = ((_ + 1 : Nat) : Int); omega) | omega
    rw [G10.i 36 (by omega)]
    refine rnStep r36 fun q11 g11 N11 X11 Y11 h11 => ?_
    have G11 : Agree 131 ρ q11 := G10.trans (g11.mono (by omega))
    have N11 : q11.i 206 = ((numB (ρ.i 36).toNat).length : Int) := N11
    have h11 : OwB (q11.h 204) _ (.slice (slP (q11.i 204) (q11.i 205)) (((numB (ρ.i 36).toNat).length : Int)).toNat (q11.i 207).toNat) (numB (ρ.i 36).toNat) := h11
    have b11 : (numB (ρ.i 36).toNat).length ≤ 10 := lenB (z := (ρ.i 36).toNat) (by omega)
    rw [← g11.h 202 (by omega), ← g11.i 202 (by omega), ← g11.i 203 (by omega)] at h10
    rw [← g11.i 134 (by omega), ← g11.i 138 (by omega), ← g11.i 146 (by omega)] at L10
    rw [L10, N11]
    refine appSeg h10 X11 Y11 (owRd h11 rfl) (by omega) (by omega) fun q12 g12 A12 C12 h12 => ?_
    have G12 : Agree 131 ρ q12 := G11.trans (g12.mono (by omega))
    have h12 : OwB (q12.h 208) _ (.slice (slP (q12.i 208) 0) (((numB (u64N (ρ.i 0)) ++ numB (ρ.i 1).toNat ++ segI (hrow ρ 0) 2 32 ++ numB (u64N (ρ.i 34)) ++ flagB (ρ.b 35) ++ numB (ρ.i 36).toNat).length : Int)).toNat (q12.i 209).toNat) (numB (u64N (ρ.i 0)) ++ numB (ρ.i 1).toNat ++ segI (hrow ρ 0) 2 32 ++ numB (u64N (ρ.i 34)) ++ flagB (ρ.b 35) ++ numB (ρ.i 36).toNat) := h12
    have b12x : (numB (u64N (ρ.i 0)) ++ numB (ρ.i 1).toNat ++ segI (hrow ρ 0) 2 32 ++ numB (u64N (ρ.i 34)) ++ flagB (ρ.b 35) ++ numB (ρ.i 36).toNat).length ≤ 73 := by rw [List.length_append]; exact Nat.add_le_add b10x b11
    have L12 : q12.i 134 + q12.i 138 + 32 + q12.i 146 + 1 + q12.i 206 = ((numB (u64N (ρ.i 0)) ++ numB (ρ.i 1).toNat ++ segI (hrow ρ 0) 2 32 ++ numB (u64N (ρ.i 34)) ++ flagB (ρ.b 35) ++ numB (ρ.i 36).toNat).length : Int) := by rw [g12.i 134 (by omega), g12.i 138 (by omega), g12.i 146 (by omega), g12.i 206 (by omega), L10, N11, List.length_append (bs := numB (ρ.i 36).toNat)]; first | (rw [segI_len]; omega) | (show _ = ((_ + 1 : Nat) : Int); omega) | omega
    rw [L12]
    refine appCvs (b2 := segI (hrow ρ 0) 37 16) h12 (by rw [← hrow_ag (G12.mono (by omega))]; exact cv_item q12) (segI_len _ _ _).symm (by omega) (by rw [segI_len]; omega) fun q13 g13 A13 C13 h13 => ?_
    have G13 : Agree 131 ρ q13 := G12.trans (g13.mono (by omega))
    have h13 : OwB (q13.h 210) _ (.slice (slP (q13.i 210) 0) (((numB (u64N (ρ.i 0)) ++ numB (ρ.i 1).toNat ++ segI (hrow ρ 0) 2 32 ++ numB (u64N (ρ.i 34)) ++ flagB (ρ.b 35) ++ numB (ρ.i 36).toNat ++ segI (hrow ρ 0) 37 16).length : Int)).toNat (q13.i 211).toNat) (numB (u64N (ρ.i 0)) ++ numB (ρ.i 1).toNat ++ segI (hrow ρ 0) 2 32 ++ numB (u64N (ρ.i 34)) ++ flagB (ρ.b 35) ++ numB (ρ.i 36).toNat ++ segI (hrow ρ 0) 37 16) := h13
    have b13x : (numB (u64N (ρ.i 0)) ++ numB (ρ.i 1).toNat ++ segI (hrow ρ 0) 2 32 ++ numB (u64N (ρ.i 34)) ++ flagB (ρ.b 35) ++ numB (ρ.i 36).toNat ++ segI (hrow ρ 0) 37 16).length ≤ 89 := by rw [List.length_append]; exact Nat.add_le_add b12x (Nat.le_of_eq (segI_len _ _ _))
    have L13 : q13.i 134 + q13.i 138 + 32 + q13.i 146 + 1 + q13.i 206 + 16 = ((numB (u64N (ρ.i 0)) ++ numB (ρ.i 1).toNat ++ segI (hrow ρ 0) 2 32 ++ numB (u64N (ρ.i 34)) ++ flagB (ρ.b 35) ++ numB (ρ.i 36).toNat ++ segI (hrow ρ 0) 37 16).length : Int) := by rw [g13.i 134 (by omega), g13.i 138 (by omega), g13.i 146 (by omega), g13.i 206 (by omega), L12, List.length_append (bs := segI (hrow ρ 0) 37 16)]; first | (rw [segI_len]; omega) | (show _ = ((_ + 1 : Nat) : Int); omega) | omega
    rw [G13.i 55 (by omega)]
    refine ⟨n55, ?_⟩
    have ew : IntKind.u64.wrap (ρ.i 55) = h.t.length := by rw [wu64 (by omega) (by omega)]; omega
    rw [ew]
    refine rnStep (by omega) fun q14 g14 N14 X14 Y14 h14 => ?_
    rw [Int.toNat_natCast] at N14 h14
    have G14 : Agree 131 ρ q14 := G13.trans (g14.mono (by omega))
    have N14 : q14.i 214 = ((numB h.t.length).length : Int) := N14
    have h14 : OwB (q14.h 212) _ (.slice (slP (q14.i 212) (q14.i 213)) (((numB h.t.length).length : Int)).toNat (q14.i 215).toNat) (numB h.t.length) := h14
    have b14 : (numB h.t.length).length ≤ 10 := lenB (z := h.t.length) (by omega)
    rw [← g14.h 210 (by omega), ← g14.i 210 (by omega), ← g14.i 211 (by omega)] at h13
    rw [← g14.i 134 (by omega), ← g14.i 138 (by omega), ← g14.i 146 (by omega), ← g14.i 206 (by omega)] at L13
    rw [L13, N14]
    refine appSeg h13 X14 Y14 (owRd h14 rfl) (by omega) (by omega) fun q15 g15 A15 C15 h15 => ?_
    have G15 : Agree 131 ρ q15 := G14.trans (g15.mono (by omega))
    have h15 : OwB (q15.h 216) _ (.slice (slP (q15.i 216) 0) (((numB (u64N (ρ.i 0)) ++ numB (ρ.i 1).toNat ++ segI (hrow ρ 0) 2 32 ++ numB (u64N (ρ.i 34)) ++ flagB (ρ.b 35) ++ numB (ρ.i 36).toNat ++ segI (hrow ρ 0) 37 16 ++ numB h.t.length).length : Int)).toNat (q15.i 217).toNat) (numB (u64N (ρ.i 0)) ++ numB (ρ.i 1).toNat ++ segI (hrow ρ 0) 2 32 ++ numB (u64N (ρ.i 34)) ++ flagB (ρ.b 35) ++ numB (ρ.i 36).toNat ++ segI (hrow ρ 0) 37 16 ++ numB h.t.length) := h15
    have b15x : (numB (u64N (ρ.i 0)) ++ numB (ρ.i 1).toNat ++ segI (hrow ρ 0) 2 32 ++ numB (u64N (ρ.i 34)) ++ flagB (ρ.b 35) ++ numB (ρ.i 36).toNat ++ segI (hrow ρ 0) 37 16 ++ numB h.t.length).length ≤ 99 := by rw [List.length_append]; exact Nat.add_le_add b13x b14
    have L15 : q15.i 134 + q15.i 138 + 32 + q15.i 146 + 1 + q15.i 206 + 16 + q15.i 214 = ((numB (u64N (ρ.i 0)) ++ numB (ρ.i 1).toNat ++ segI (hrow ρ 0) 2 32 ++ numB (u64N (ρ.i 34)) ++ flagB (ρ.b 35) ++ numB (ρ.i 36).toNat ++ segI (hrow ρ 0) 37 16 ++ numB h.t.length).length : Int) := by rw [g15.i 134 (by omega), g15.i 138 (by omega), g15.i 146 (by omega), g15.i 206 (by omega), g15.i 214 (by omega), L13, N14, List.length_append (bs := numB h.t.length)]; first | (rw [segI_len]; omega) | (show _ = ((_ + 1 : Nat) : Int); omega) | omega
    have hA : OwB (q15.h 216) _ (.slice (slP (q15.i 216) 0) (((coreA (hrow ρ 0) h.t.length).length : Int)).toNat (q15.i 217).toNat) (coreA (hrow ρ 0) h.t.length) := h15
    have lA : (coreA (hrow ρ 0) h.t.length).length ≤ 99 := b15x
    have LA : q15.i 134 + q15.i 138 + 32 + q15.i 146 + 1 + q15.i 206 + 16 + q15.i 214 = ((coreA (hrow ρ 0) h.t.length).length : Int) := L15
    have ht16 : ∀ t ∈ h.t, t.length = 16 := fun t ht => (hx.byte.2 t ht).1
    have lF : ∀ i, i ≤ h.t.length → ((h.t.take i).flatten).length ≤ 128 := fun i hi => by
      rw [flat16 (fun t ht => ht16 t (List.mem_of_mem_take ht)), List.length_take]; omega
    refine ⟨⟨0, rfl, Nat.zero_le _, A15, C15, ?_, ?_⟩, fun q g hinv => ?_⟩
    · show q15.i 134 + q15.i 138 + 32 + q15.i 146 + 1 + q15.i 206 + 16 + q15.i 214 = _
      rw [List.take_zero, List.flatten_nil, List.append_nil]; exact LA
    · show OwB (q15.h 216) _ (.slice (slP (q15.i 216) 0) _ (q15.i 217).toNat) _
      rw [List.take_zero, List.flatten_nil, List.append_nil]; exact hA
    have G : Agree 131 ρ q := G15.trans (g.mono (by omega))
    clear h2 h3 h4 h5 h6 h7 h10 h11 h12 h13 h14 h15 hA LA
    obtain ⟨i, ei, hi, A0, C0, e311, hO⟩ := hinv
    rw [G.i 55 (by omega), ei]
    refine ⟨fun hlt => ?_, fun hge => ?_⟩
    · have hiT : i < h.t.length := by omega
      obtain ⟨x, y, c, eS, hy, hrows⟩ := id hx.tok
      have eS : Value.slice (slP (ρ.i 53) (ρ.i 54)) (ρ.i 55).toNat (ρ.i 56).toNat = .slice (slP x y) (h.t.map bys).length c := eS
      rcases hrows with hn | ⟨hx0, hc⟩
      · rw [List.map_eq_nil_iff] at hn
        rw [hn] at hiT; cases hiT
      simp only [Value.slice.injEq] at eS
      obtain ⟨hx53, hy54⟩ := slP_eq hx0 hy n54 eS.1
      have ht := List.getElem?_eq_getElem hiT
      have m1 := hx.byte.2 _ (List.mem_of_getElem? ht)
      have hcell := (hc i (bys h.t[i]) (by rw [List.getElem?_map, ht]; rfl)).2
      have hlen16 : tkd.length = 16 := rfl
      rw [hlen16] at hcell
      have rdT : RdB R (.slice (slP x (y + (i : Int) * 16)) h.t[i].length 16) h.t[i] := ⟨x, y + (i : Int) * 16, 16, rfl, by omega, Or.inr ⟨hx0, fun j z hz => by
        rw [show (y + (i : Int) * 16).toNat + j = y.toNat + i * 16 + j by omega]
        exact hcell j _ (by unfold bys; rw [List.getElem?_map, hz]; rfl)⟩⟩
      have h16 : (16 : Int) = (h.t[i].length : Int) := by rw [m1.1]; rfl
      have := lF i hi
      rw [G.i 53 (by omega), G.i 54 (by omega), G.h 130 (by omega), w130, hx53, hy54, e311]
      refine ⟨hx0, hy, by omega, ?_⟩
      have key := fun K k => appSeg (q := q) (n := 320) (D := fun q' => (∀ b : Nat, (q.h 314).mem b → some b ≠ (Value.slice (slP (q.i 310) 0) (((coreA (hrow ρ 0) h.t.length ++ (List.take i h.t).flatten).length : Int)).toNat (q.i 312).toNat).ownBlock → q'.h 320 b = q.h 314 b) ∧ (∀ b : Nat, (q'.h 320).mem b → (q.h 314).mem b ∨ b = (q'.i 320).toNat ∧ 0 ≤ q'.i 320) ∧ (some (q'.i 320).toNat = (Value.slice (slP (q.i 310) 0) (((coreA (hrow ρ 0) h.t.length ++ (List.take i h.t).flatten).length : Int)).toNat (q.i 312).toNat).ownBlock ∨ ¬(q.h 314).mem (q'.i 320).toNat ∨ q'.i 320 = -1)) (K := K) hO (by omega) (by omega) rdT (by rw [List.length_append]; omega) (by omega) k
      rw [m1.1] at key
      refine key _ fun q1 g1 A1 C1 h1 => ?_
      have ew : IntKind.i64.wrap (q1.i 313 + 1) = ((i + 1 : Nat) : Int) := by rw [g1.i 313 (by omega), ei, IntWalk.i64_in _ (by omega)]; omega
      have eB : coreA (hrow ρ 0) h.t.length ++ (h.t.take i).flatten ++ h.t[i] = coreA (hrow ρ 0) h.t.length ++ (h.t.take (i + 1)).flatten := by rw [List.take_add_one, ht, Option.toList_some, List.flatten_append, List.flatten_cons, List.flatten_nil, List.append_nil, List.append_assoc]
      have lB : ((coreA (hrow ρ 0) h.t.length ++ (h.t.take i).flatten).length : Int) + 16 = ((coreA (hrow ρ 0) h.t.length ++ (h.t.take (i + 1)).flatten).length : Int) := by rw [← eB, List.length_append (bs := h.t[i])]; omega
      rw [eB] at h1
      refine ⟨⟨i + 1, ew, by omega, A1, C1, ?_, h1⟩, ?_⟩
      · show q1.i 311 + 16 = _
        rw [g1.i 311 (by omega), e311, lB]
      · show ((h.t.length : Int) - IntKind.i64.wrap (q1.i 313 + 1)).toNat < _
        rw [ew]; omega
    have hi' : i = h.t.length := by omega
    rw [hi', List.take_length] at hO e311
    have lF := lF h.t.length (Nat.le_refl _)
    rw [List.take_length] at lF
    have b20 : (coreA (hrow ρ 0) h.t.length ++ h.t.flatten).length ≤ 227 := by rw [List.length_append]; exact Nat.add_le_add lA lF
    have G20 := G
    clear G lA lF
    obtain ⟨q20, e20⟩ : ∃ q20, q20 = q := ⟨_, rfl⟩
    rw [← e20] at hO e311 G20 ⊢
    have hge' : True := trivial
    rw [G20.i 57 (by omega)]
    refine rnStep r57 fun q21 g21 N21 X21 Y21 h21 => ?_
    have G21 : Agree 131 ρ q21 := G20.trans (g21.mono (by omega))
    have N21 : q21.i 322 = ((numB (ρ.i 57).toNat).length : Int) := N21
    have h21 : OwB (q21.h 320) _ (.slice (slP (q21.i 320) (q21.i 321)) (((numB (ρ.i 57).toNat).length : Int)).toNat (q21.i 323).toNat) (numB (ρ.i 57).toNat) := h21
    have b21 : (numB (ρ.i 57).toNat).length ≤ 10 := lenB (z := (ρ.i 57).toNat) (by omega)
    rw [← g21.h 314 (by omega), ← g21.i 310 (by omega), ← g21.i 312 (by omega)] at hO
    rw [← g21.i 311 (by omega)] at e311
    rw [e311, N21]
    refine appSeg hO X21 Y21 (owRd h21 rfl) (by omega) (by omega) fun q22 g22 A22 C22 h22 => ?_
    have G22 : Agree 131 ρ q22 := G21.trans (g22.mono (by omega))
    have h22 : OwB (q22.h 324) _ (.slice (slP (q22.i 324) 0) (((coreA (hrow ρ 0) h.t.length ++ h.t.flatten ++ numB (ρ.i 57).toNat).length : Int)).toNat (q22.i 325).toNat) (coreA (hrow ρ 0) h.t.length ++ h.t.flatten ++ numB (ρ.i 57).toNat) := h22
    have b22x : (coreA (hrow ρ 0) h.t.length ++ h.t.flatten ++ numB (ρ.i 57).toNat).length ≤ 237 := by rw [List.length_append]; exact Nat.add_le_add b20 b21
    have L22 : q22.i 311 + q22.i 322 = ((coreA (hrow ρ 0) h.t.length ++ h.t.flatten ++ numB (ρ.i 57).toNat).length : Int) := by rw [g22.i 311 (by omega), g22.i 322 (by omega), e311, N21, List.length_append (bs := numB (ρ.i 57).toNat)]; first | (rw [segI_len]; omega) | (show _ = ((_ + 1 : Nat) : Int); omega) | omega
    rw [G22.i 58 (by omega)]
    refine rnStep r58 fun q23 g23 N23 X23 Y23 h23 => ?_
    have G23 : Agree 131 ρ q23 := G22.trans (g23.mono (by omega))
    have N23 : q23.i 328 = ((numB (ρ.i 58).toNat).length : Int) := N23
    have h23 : OwB (q23.h 326) _ (.slice (slP (q23.i 326) (q23.i 327)) (((numB (ρ.i 58).toNat).length : Int)).toNat (q23.i 329).toNat) (numB (ρ.i 58).toNat) := h23
    have b23 : (numB (ρ.i 58).toNat).length ≤ 10 := lenB (z := (ρ.i 58).toNat) (by omega)
    rw [← g23.h 324 (by omega), ← g23.i 324 (by omega), ← g23.i 325 (by omega)] at h22
    rw [← g23.i 311 (by omega), ← g23.i 322 (by omega)] at L22
    rw [L22, N23]
    refine appSeg h22 X23 Y23 (owRd h23 rfl) (by omega) (by omega) fun q24 g24 A24 C24 h24 => ?_
    have G24 : Agree 131 ρ q24 := G23.trans (g24.mono (by omega))
    have h24 : OwB (q24.h 330) _ (.slice (slP (q24.i 330) 0) (((coreA (hrow ρ 0) h.t.length ++ h.t.flatten ++ numB (ρ.i 57).toNat ++ numB (ρ.i 58).toNat).length : Int)).toNat (q24.i 331).toNat) (coreA (hrow ρ 0) h.t.length ++ h.t.flatten ++ numB (ρ.i 57).toNat ++ numB (ρ.i 58).toNat) := h24
    have b24x : (coreA (hrow ρ 0) h.t.length ++ h.t.flatten ++ numB (ρ.i 57).toNat ++ numB (ρ.i 58).toNat).length ≤ 247 := by rw [List.length_append]; exact Nat.add_le_add b22x b23
    have L24 : q24.i 311 + q24.i 322 + q24.i 328 = ((coreA (hrow ρ 0) h.t.length ++ h.t.flatten ++ numB (ρ.i 57).toNat ++ numB (ρ.i 58).toNat).length : Int) := by rw [g24.i 311 (by omega), g24.i 322 (by omega), g24.i 328 (by omega), L22, N23, List.length_append (bs := numB (ρ.i 58).toNat)]; first | (rw [segI_len]; omega) | (show _ = ((_ + 1 : Nat) : Int); omega) | omega
    rw [G24.i 59 (by omega)]
    refine rnStep r59 fun q25 g25 N25 X25 Y25 h25 => ?_
    have G25 : Agree 131 ρ q25 := G24.trans (g25.mono (by omega))
    have N25 : q25.i 334 = ((numB (ρ.i 59).toNat).length : Int) := N25
    have h25 : OwB (q25.h 332) _ (.slice (slP (q25.i 332) (q25.i 333)) (((numB (ρ.i 59).toNat).length : Int)).toNat (q25.i 335).toNat) (numB (ρ.i 59).toNat) := h25
    have b25 : (numB (ρ.i 59).toNat).length ≤ 10 := lenB (z := (ρ.i 59).toNat) (by omega)
    rw [← g25.h 330 (by omega), ← g25.i 330 (by omega), ← g25.i 331 (by omega)] at h24
    rw [← g25.i 311 (by omega), ← g25.i 322 (by omega), ← g25.i 328 (by omega)] at L24
    rw [L24, N25]
    refine appSeg h24 X25 Y25 (owRd h25 rfl) (by omega) (by omega) fun q26 g26 A26 C26 h26 => ?_
    have G26 : Agree 131 ρ q26 := G25.trans (g26.mono (by omega))
    have h26 : OwB (q26.h 336) _ (.slice (slP (q26.i 336) 0) (((coreA (hrow ρ 0) h.t.length ++ h.t.flatten ++ numB (ρ.i 57).toNat ++ numB (ρ.i 58).toNat ++ numB (ρ.i 59).toNat).length : Int)).toNat (q26.i 337).toNat) (coreA (hrow ρ 0) h.t.length ++ h.t.flatten ++ numB (ρ.i 57).toNat ++ numB (ρ.i 58).toNat ++ numB (ρ.i 59).toNat) := h26
    have b26x : (coreA (hrow ρ 0) h.t.length ++ h.t.flatten ++ numB (ρ.i 57).toNat ++ numB (ρ.i 58).toNat ++ numB (ρ.i 59).toNat).length ≤ 257 := by rw [List.length_append]; exact Nat.add_le_add b24x b25
    have L26 : q26.i 311 + q26.i 322 + q26.i 328 + q26.i 334 = ((coreA (hrow ρ 0) h.t.length ++ h.t.flatten ++ numB (ρ.i 57).toNat ++ numB (ρ.i 58).toNat ++ numB (ρ.i 59).toNat).length : Int) := by rw [g26.i 311 (by omega), g26.i 322 (by omega), g26.i 328 (by omega), g26.i 334 (by omega), L24, N25, List.length_append (bs := numB (ρ.i 59).toNat)]; first | (rw [segI_len]; omega) | (show _ = ((_ + 1 : Nat) : Int); omega) | omega
    rw [G26.i 60 (by omega)]
    refine rnStep r60 fun q27 g27 N27 X27 Y27 h27 => ?_
    have G27 : Agree 131 ρ q27 := G26.trans (g27.mono (by omega))
    have N27 : q27.i 340 = ((numB (ρ.i 60).toNat).length : Int) := N27
    have h27 : OwB (q27.h 338) _ (.slice (slP (q27.i 338) (q27.i 339)) (((numB (ρ.i 60).toNat).length : Int)).toNat (q27.i 341).toNat) (numB (ρ.i 60).toNat) := h27
    have b27 : (numB (ρ.i 60).toNat).length ≤ 10 := lenB (z := (ρ.i 60).toNat) (by omega)
    rw [← g27.h 336 (by omega), ← g27.i 336 (by omega), ← g27.i 337 (by omega)] at h26
    rw [← g27.i 311 (by omega), ← g27.i 322 (by omega), ← g27.i 328 (by omega), ← g27.i 334 (by omega)] at L26
    rw [L26, N27]
    refine appSeg h26 X27 Y27 (owRd h27 rfl) (by omega) (by omega) fun q28 g28 A28 C28 h28 => ?_
    have G28 : Agree 131 ρ q28 := G27.trans (g28.mono (by omega))
    have h28 : OwB (q28.h 342) _ (.slice (slP (q28.i 342) 0) (((coreA (hrow ρ 0) h.t.length ++ h.t.flatten ++ numB (ρ.i 57).toNat ++ numB (ρ.i 58).toNat ++ numB (ρ.i 59).toNat ++ numB (ρ.i 60).toNat).length : Int)).toNat (q28.i 343).toNat) (coreA (hrow ρ 0) h.t.length ++ h.t.flatten ++ numB (ρ.i 57).toNat ++ numB (ρ.i 58).toNat ++ numB (ρ.i 59).toNat ++ numB (ρ.i 60).toNat) := h28
    have b28x : (coreA (hrow ρ 0) h.t.length ++ h.t.flatten ++ numB (ρ.i 57).toNat ++ numB (ρ.i 58).toNat ++ numB (ρ.i 59).toNat ++ numB (ρ.i 60).toNat).length ≤ 267 := by rw [List.length_append]; exact Nat.add_le_add b26x b27
    have L28 : q28.i 311 + q28.i 322 + q28.i 328 + q28.i 334 + q28.i 340 = ((coreA (hrow ρ 0) h.t.length ++ h.t.flatten ++ numB (ρ.i 57).toNat ++ numB (ρ.i 58).toNat ++ numB (ρ.i 59).toNat ++ numB (ρ.i 60).toNat).length : Int) := by rw [g28.i 311 (by omega), g28.i 322 (by omega), g28.i 328 (by omega), g28.i 334 (by omega), g28.i 340 (by omega), L26, N27, List.length_append (bs := numB (ρ.i 60).toNat)]; first | (rw [segI_len]; omega) | (show _ = ((_ + 1 : Nat) : Int); omega) | omega
    rw [G28.i 61 (by omega)]
    refine rnStep r61 fun q29 g29 N29 X29 Y29 h29 => ?_
    have G29 : Agree 131 ρ q29 := G28.trans (g29.mono (by omega))
    have N29 : q29.i 346 = ((numB (ρ.i 61).toNat).length : Int) := N29
    have h29 : OwB (q29.h 344) _ (.slice (slP (q29.i 344) (q29.i 345)) (((numB (ρ.i 61).toNat).length : Int)).toNat (q29.i 347).toNat) (numB (ρ.i 61).toNat) := h29
    have b29 : (numB (ρ.i 61).toNat).length ≤ 10 := lenB (z := (ρ.i 61).toNat) (by omega)
    rw [← g29.h 342 (by omega), ← g29.i 342 (by omega), ← g29.i 343 (by omega)] at h28
    rw [← g29.i 311 (by omega), ← g29.i 322 (by omega), ← g29.i 328 (by omega), ← g29.i 334 (by omega), ← g29.i 340 (by omega)] at L28
    rw [L28, N29]
    refine appSeg h28 X29 Y29 (owRd h29 rfl) (by omega) (by omega) fun q30 g30 A30 C30 h30 => ?_
    have G30 : Agree 131 ρ q30 := G29.trans (g30.mono (by omega))
    have h30 : OwB (q30.h 348) _ (.slice (slP (q30.i 348) 0) (((coreA (hrow ρ 0) h.t.length ++ h.t.flatten ++ numB (ρ.i 57).toNat ++ numB (ρ.i 58).toNat ++ numB (ρ.i 59).toNat ++ numB (ρ.i 60).toNat ++ numB (ρ.i 61).toNat).length : Int)).toNat (q30.i 349).toNat) (coreA (hrow ρ 0) h.t.length ++ h.t.flatten ++ numB (ρ.i 57).toNat ++ numB (ρ.i 58).toNat ++ numB (ρ.i 59).toNat ++ numB (ρ.i 60).toNat ++ numB (ρ.i 61).toNat) := h30
    have b30x : (coreA (hrow ρ 0) h.t.length ++ h.t.flatten ++ numB (ρ.i 57).toNat ++ numB (ρ.i 58).toNat ++ numB (ρ.i 59).toNat ++ numB (ρ.i 60).toNat ++ numB (ρ.i 61).toNat).length ≤ 277 := by rw [List.length_append]; exact Nat.add_le_add b28x b29
    have L30 : q30.i 311 + q30.i 322 + q30.i 328 + q30.i 334 + q30.i 340 + q30.i 346 = ((coreA (hrow ρ 0) h.t.length ++ h.t.flatten ++ numB (ρ.i 57).toNat ++ numB (ρ.i 58).toNat ++ numB (ρ.i 59).toNat ++ numB (ρ.i 60).toNat ++ numB (ρ.i 61).toNat).length : Int) := by rw [g30.i 311 (by omega), g30.i 322 (by omega), g30.i 328 (by omega), g30.i 334 (by omega), g30.i 340 (by omega), g30.i 346 (by omega), L28, N29, List.length_append (bs := numB (ρ.i 61).toNat)]; first | (rw [segI_len]; omega) | (show _ = ((_ + 1 : Nat) : Int); omega) | omega
    rw [G30.i 62 (by omega)]
    refine rnStep r62 fun q31 g31 N31 X31 Y31 h31 => ?_
    have G31 : Agree 131 ρ q31 := G30.trans (g31.mono (by omega))
    have N31 : q31.i 352 = ((numB (ρ.i 62).toNat).length : Int) := N31
    have h31 : OwB (q31.h 350) _ (.slice (slP (q31.i 350) (q31.i 351)) (((numB (ρ.i 62).toNat).length : Int)).toNat (q31.i 353).toNat) (numB (ρ.i 62).toNat) := h31
    have b31 : (numB (ρ.i 62).toNat).length ≤ 10 := lenB (z := (ρ.i 62).toNat) (by omega)
    rw [← g31.h 348 (by omega), ← g31.i 348 (by omega), ← g31.i 349 (by omega)] at h30
    rw [← g31.i 311 (by omega), ← g31.i 322 (by omega), ← g31.i 328 (by omega), ← g31.i 334 (by omega), ← g31.i 340 (by omega), ← g31.i 346 (by omega)] at L30
    rw [L30, N31]
    refine appSeg h30 X31 Y31 (owRd h31 rfl) (by omega) (by omega) fun q32 g32 A32 C32 h32 => ?_
    have G32 : Agree 131 ρ q32 := G31.trans (g32.mono (by omega))
    have h32 : OwB (q32.h 354) _ (.slice (slP (q32.i 354) 0) (((coreA (hrow ρ 0) h.t.length ++ h.t.flatten ++ numB (ρ.i 57).toNat ++ numB (ρ.i 58).toNat ++ numB (ρ.i 59).toNat ++ numB (ρ.i 60).toNat ++ numB (ρ.i 61).toNat ++ numB (ρ.i 62).toNat).length : Int)).toNat (q32.i 355).toNat) (coreA (hrow ρ 0) h.t.length ++ h.t.flatten ++ numB (ρ.i 57).toNat ++ numB (ρ.i 58).toNat ++ numB (ρ.i 59).toNat ++ numB (ρ.i 60).toNat ++ numB (ρ.i 61).toNat ++ numB (ρ.i 62).toNat) := h32
    have b32x : (coreA (hrow ρ 0) h.t.length ++ h.t.flatten ++ numB (ρ.i 57).toNat ++ numB (ρ.i 58).toNat ++ numB (ρ.i 59).toNat ++ numB (ρ.i 60).toNat ++ numB (ρ.i 61).toNat ++ numB (ρ.i 62).toNat).length ≤ 287 := by rw [List.length_append]; exact Nat.add_le_add b30x b31
    have L32 : q32.i 311 + q32.i 322 + q32.i 328 + q32.i 334 + q32.i 340 + q32.i 346 + q32.i 352 = ((coreA (hrow ρ 0) h.t.length ++ h.t.flatten ++ numB (ρ.i 57).toNat ++ numB (ρ.i 58).toNat ++ numB (ρ.i 59).toNat ++ numB (ρ.i 60).toNat ++ numB (ρ.i 61).toNat ++ numB (ρ.i 62).toNat).length : Int) := by rw [g32.i 311 (by omega), g32.i 322 (by omega), g32.i 328 (by omega), g32.i 334 (by omega), g32.i 340 (by omega), g32.i 346 (by omega), g32.i 352 (by omega), L30, N31, List.length_append (bs := numB (ρ.i 62).toNat)]; first | (rw [segI_len]; omega) | (show _ = ((_ + 1 : Nat) : Int); omega) | omega
    rw [L32]
    refine appCvs (b2 := segI (hrow ρ 0) 60 32) h32 (by rw [← hrow_ag (G32.mono (by omega))]; exact cv_sum q32) (segI_len _ _ _).symm (by omega) (by rw [segI_len]; omega) fun q33 g33 A33 C33 h33 => ?_
    have G33 : Agree 131 ρ q33 := G32.trans (g33.mono (by omega))
    have h33 : OwB (q33.h 356) _ (.slice (slP (q33.i 356) 0) (((coreA (hrow ρ 0) h.t.length ++ h.t.flatten ++ numB (ρ.i 57).toNat ++ numB (ρ.i 58).toNat ++ numB (ρ.i 59).toNat ++ numB (ρ.i 60).toNat ++ numB (ρ.i 61).toNat ++ numB (ρ.i 62).toNat ++ segI (hrow ρ 0) 60 32).length : Int)).toNat (q33.i 357).toNat) (coreA (hrow ρ 0) h.t.length ++ h.t.flatten ++ numB (ρ.i 57).toNat ++ numB (ρ.i 58).toNat ++ numB (ρ.i 59).toNat ++ numB (ρ.i 60).toNat ++ numB (ρ.i 61).toNat ++ numB (ρ.i 62).toNat ++ segI (hrow ρ 0) 60 32) := h33
    have b33x : (coreA (hrow ρ 0) h.t.length ++ h.t.flatten ++ numB (ρ.i 57).toNat ++ numB (ρ.i 58).toNat ++ numB (ρ.i 59).toNat ++ numB (ρ.i 60).toNat ++ numB (ρ.i 61).toNat ++ numB (ρ.i 62).toNat ++ segI (hrow ρ 0) 60 32).length ≤ 319 := by rw [List.length_append]; exact Nat.add_le_add b32x (Nat.le_of_eq (segI_len _ _ _))
    have L33 : q33.i 311 + q33.i 322 + q33.i 328 + q33.i 334 + q33.i 340 + q33.i 346 + q33.i 352 + 32 = ((coreA (hrow ρ 0) h.t.length ++ h.t.flatten ++ numB (ρ.i 57).toNat ++ numB (ρ.i 58).toNat ++ numB (ρ.i 59).toNat ++ numB (ρ.i 60).toNat ++ numB (ρ.i 61).toNat ++ numB (ρ.i 62).toNat ++ segI (hrow ρ 0) 60 32).length : Int) := by rw [g33.i 311 (by omega), g33.i 322 (by omega), g33.i 328 (by omega), g33.i 334 (by omega), g33.i 340 (by omega), g33.i 346 (by omega), g33.i 352 (by omega), L32, List.length_append (bs := segI (hrow ρ 0) 60 32)]; first | (rw [segI_len]; omega) | (show _ = ((_ + 1 : Nat) : Int); omega) | omega
    rw [G33.i 95 (by omega)]
    refine rnStep (u64_in _) fun q34 g34 N34 X34 Y34 h34 => ?_
    have G34 : Agree 131 ρ q34 := G33.trans (g34.mono (by omega))
    have N34 : q34.i 360 = ((numB (u64N (ρ.i 95))).length : Int) := N34
    have h34 : OwB (q34.h 358) _ (.slice (slP (q34.i 358) (q34.i 359)) (((numB (u64N (ρ.i 95))).length : Int)).toNat (q34.i 361).toNat) (numB (u64N (ρ.i 95))) := h34
    have b34 : (numB (u64N (ρ.i 95))).length ≤ 10 := lenB (u64N_lt (ρ.i 95))
    rw [← g34.h 356 (by omega), ← g34.i 356 (by omega), ← g34.i 357 (by omega)] at h33
    rw [← g34.i 311 (by omega), ← g34.i 322 (by omega), ← g34.i 328 (by omega), ← g34.i 334 (by omega), ← g34.i 340 (by omega), ← g34.i 346 (by omega), ← g34.i 352 (by omega)] at L33
    rw [L33, N34]
    refine appSeg h33 X34 Y34 (owRd h34 rfl) (by omega) (by omega) fun q35 g35 A35 C35 h35 => ?_
    have G35 : Agree 131 ρ q35 := G34.trans (g35.mono (by omega))
    have h35 : OwB (q35.h 362) _ (.slice (slP (q35.i 362) 0) (((coreA (hrow ρ 0) h.t.length ++ h.t.flatten ++ numB (ρ.i 57).toNat ++ numB (ρ.i 58).toNat ++ numB (ρ.i 59).toNat ++ numB (ρ.i 60).toNat ++ numB (ρ.i 61).toNat ++ numB (ρ.i 62).toNat ++ segI (hrow ρ 0) 60 32 ++ numB (u64N (ρ.i 95))).length : Int)).toNat (q35.i 363).toNat) (coreA (hrow ρ 0) h.t.length ++ h.t.flatten ++ numB (ρ.i 57).toNat ++ numB (ρ.i 58).toNat ++ numB (ρ.i 59).toNat ++ numB (ρ.i 60).toNat ++ numB (ρ.i 61).toNat ++ numB (ρ.i 62).toNat ++ segI (hrow ρ 0) 60 32 ++ numB (u64N (ρ.i 95))) := h35
    have b35x : (coreA (hrow ρ 0) h.t.length ++ h.t.flatten ++ numB (ρ.i 57).toNat ++ numB (ρ.i 58).toNat ++ numB (ρ.i 59).toNat ++ numB (ρ.i 60).toNat ++ numB (ρ.i 61).toNat ++ numB (ρ.i 62).toNat ++ segI (hrow ρ 0) 60 32 ++ numB (u64N (ρ.i 95))).length ≤ 329 := by rw [List.length_append]; exact Nat.add_le_add b33x b34
    have L35 : q35.i 311 + q35.i 322 + q35.i 328 + q35.i 334 + q35.i 340 + q35.i 346 + q35.i 352 + 32 + q35.i 360 = ((coreA (hrow ρ 0) h.t.length ++ h.t.flatten ++ numB (ρ.i 57).toNat ++ numB (ρ.i 58).toNat ++ numB (ρ.i 59).toNat ++ numB (ρ.i 60).toNat ++ numB (ρ.i 61).toNat ++ numB (ρ.i 62).toNat ++ segI (hrow ρ 0) 60 32 ++ numB (u64N (ρ.i 95))).length : Int) := by rw [g35.i 311 (by omega), g35.i 322 (by omega), g35.i 328 (by omega), g35.i 334 (by omega), g35.i 340 (by omega), g35.i 346 (by omega), g35.i 352 (by omega), g35.i 360 (by omega), L33, N34, List.length_append (bs := numB (u64N (ρ.i 95)))]; first | (rw [segI_len]; omega) | (show _ = ((_ + 1 : Nat) : Int); omega) | omega
    refine fun _ => ⟨[], [2], rfl, rfl, ⟨⟨fun k => [q35.i 362, 0, q35.i 311 + q35.i 322 + q35.i 328 + q35.i 334 + q35.i 340 + q35.i 346 + q35.i 352 + 32 + q35.i 360, q35.i 363].getD k 0, fun _ => false, fun _ => .empty, fun _ => .tuple #[], fun _ => Hl.none⟩, rfl, ⟨A35, Int.le_refl _, by show 0 ≤ q35.i 311 + q35.i 322 + q35.i 328 + q35.i 334 + q35.i 340 + q35.i 346 + q35.i 352 + 32 + q35.i 360; omega, C35⟩, trivial⟩, _, R, h, rfl, rfl, hx, ?_⟩
    show OwB (hls [q35.h 362]) _ (.slice (slP (q35.i 362) 0) (q35.i 311 + q35.i 322 + q35.i 328 + q35.i 334 + q35.i 340 + q35.i 346 + q35.i 352 + 32 + q35.i 360).toNat (q35.i 363).toNat) _
    rw [hls_one, L35, core_row hx]; exact h35
end Go.Proofs.YtomdimlnggpgbaaDoor
namespace Go.Proofs.YtomdimlnggpgbaaDoor
open Go Go.Sx Go.Pk
def hdB (h : Hd) : List Int := coreB h ++ segI h.c 93 32
open Classical in
noncomputable def bytesOfH (h : Hd) : List Int := if h.Form then hdB h else []
noncomputable def bytesS (f : FuncId) : Sx.Spec where
  fn := f
  own := []
  rd := [10053]
  res := [.one .sl]
  pre := fun xs Hs Rs => ∃ row R h, xs = [.agg row.toArray] ∧ Rs = [R] ∧ IsHd R row h
  post := fun xs Hs Rs v Hs' F => ∃ row R h, xs = [.agg row.toArray] ∧ Rs = [R] ∧ IsHd R row h ∧ OwB F 5 v (bytesOfH h)
noncomputable def hbΓ : List Sx.Spec := [formS 65, coreS 122, formS 55, coreS 120]
theorem hbΓ_ok : ∀ t ∈ hbΓ, t.OK Tryd.prog := fun t ht => by
  simp only [hbΓ, List.mem_cons, List.mem_nil_iff, or_false] at ht
  rcases ht with rfl | rfl | rfl | rfl
  · exact eFormS_ok
  · exact eCoreS_ok
  · exact rFormS_ok
  · exact rCoreS_ok
theorem hg0 : hbΓ[0]? = some (formS 65) := rfl
theorem hg1 : hbΓ[1]? = some (coreS 122) := rfl
theorem hg2 : hbΓ[2]? = some (formS 55) := rfl
theorem hg3 : hbΓ[3]? = some (coreS 120) := rfl
theorem hr0 (f : FuncId) : (formS f).res = [.one .bool] := rfl
theorem hr1 (f : FuncId) : (coreS f).res = [.one .sl] := rfl
def eBytNd : Nd := .ext (.alloc 131) (.and (.pre (.call 0 132 [.sv (.agg (ckCVs 0 hk2))] [] [.ro 130 [.var 53] false])) (.ext (.call 0 132 [.sv (.agg (ckCVs 0 hk2))] [] [.ro 130 [.var 53] false]) (.and (.imp (.not (.bvar 132)) (.post [.ro 130 [.var 53] false, .dead] (.sv (.one (.sl (.lit (-1)) (.lit 0) (.lit 0) (.lit 0)))))) (.imp (.bvar 132) (.and (.pre (.call 1 133 [.sv (.agg (ckCVs 0 hk2))] [] [.ro 130 [.var 53] false])) (.ext (.call 1 133 [.sv (.agg (ckCVs 0 hk2))] [] [.ro 130 [.var 53] false]) (.and (.pre (.app 137 5 1 1 (.sl (.var 133) (.var 134) (.var 135) (.var 136)) (.var 135) (.hp 133 [] [.var 133] []) (.cvs (ckCVs 96 (List.replicate 32 (Ck.int .u8))) 32))) (.ext (.app 137 5 1 1 (.sl (.var 133) (.var 134) (.var 135) (.var 136)) (.var 135) (.hp 133 [] [.var 133] []) (.cvs (ckCVs 96 (List.replicate 32 (Ck.int .u8))) 32)) (.post [.ro 130 [.var 53] false, .dead, .hp 137 [133] [.var 137, .var 133] []] (.sv (.one (.sl (.var 137) (.lit 0) (.add (.var 135) (.lit 32)) (.var 138)))))))))))))
def rBytNd : Nd := .ext (.alloc 131) (.and (.pre (.call 2 132 [.sv (.agg (ckCVs 0 hk2))] [] [.ro 130 [.var 53] false])) (.ext (.call 2 132 [.sv (.agg (ckCVs 0 hk2))] [] [.ro 130 [.var 53] false]) (.and (.imp (.not (.bvar 132)) (.post [.ro 130 [.var 53] false, .dead] (.sv (.one (.sl (.lit (-1)) (.lit 0) (.lit 0) (.lit 0)))))) (.imp (.bvar 132) (.and (.pre (.call 3 133 [.sv (.agg (ckCVs 0 hk2))] [] [.ro 130 [.var 53] false])) (.ext (.call 3 133 [.sv (.agg (ckCVs 0 hk2))] [] [.ro 130 [.var 53] false]) (.and (.pre (.app 137 5 1 1 (.sl (.var 133) (.var 134) (.var 135) (.var 136)) (.var 135) (.hp 133 [] [.var 133] []) (.cvs (ckCVs 96 (List.replicate 32 (Ck.int .u8))) 32))) (.ext (.app 137 5 1 1 (.sl (.var 133) (.var 134) (.var 135) (.var 136)) (.var 135) (.hp 133 [] [.var 133] []) (.cvs (ckCVs 96 (List.replicate 32 (Ck.int .u8))) 32)) (.post [.ro 130 [.var 53] false, .dead, .hp 137 [133] [.var 137, .var 133] []] (.sv (.one (.sl (.var 137) (.lit 0) (.add (.var 135) (.lit 32)) (.var 138)))))))))))))
noncomputable def eBytW : Walk Tryd.prog hbΓ 96 where
  Λ := noLoops
  args := (cpSVs 0 [.agg hk2]).map .sv
  mem := [.ro 130 [.var 53] false]
  nv := 131
  nd := eBytNd
  ok := by kernel_rfl
noncomputable def rBytW : Walk Tryd.prog hbΓ 90 where
  Λ := noLoops
  args := (cpSVs 0 [.agg hk2]).map .sv
  mem := [.ro 130 [.var 53] false]
  nv := 131
  nd := rBytNd
  ok := by kernel_rfl
open Classical in
theorem form_res {f : FuncId} {row : List Value} {R : Hl} {h : Hd} {Hs K : List Hl} {v : Value} {F : Hl} (hx : IsHd R row h) (hp : (formS f).post [.agg row.toArray] Hs [R] v K F) : v = .bool (decide h.Form) := by
  obtain ⟨row', R', h', e1, e2, hx', hv⟩ := hp
  simp only [List.cons.injEq, Value.agg.injEq, and_true] at e1 e2
  have e1 := List.toArray_inj e1
  subst e1 e2
  rw [hx.uniq hx']; exact hv
theorem core_res {f : FuncId} {row : List Value} {R : Hl} {h : Hd} {Hs K : List Hl} {v : Value} {F : Hl} (hx : IsHd R row h) (hp : (coreS f).post [.agg row.toArray] Hs [R] v K F) : OwB F 5 v (coreB h) := by
  obtain ⟨row', R', h', e1, e2, hx', hv⟩ := hp
  simp only [List.cons.injEq, Value.agg.injEq, and_true] at e1 e2
  have e1 := List.toArray_inj e1
  subst e1 e2
  rw [hx.uniq hx']; exact hv
theorem byt_res {f : FuncId} {row : List Value} {R : Hl} {h : Hd} {Hs K : List Hl} {v : Value} {F : Hl} (hx : IsHd R row h) (hp : (bytesS f).post [.agg row.toArray] Hs [R] v K F) : OwB F 5 v (bytesOfH h) := by
  obtain ⟨row', R', h', e1, e2, hx', hv⟩ := hp
  simp only [List.cons.injEq, Value.agg.injEq, and_true] at e1 e2
  have e1 := List.toArray_inj e1
  subst e1 e2
  rw [hx.uniq hx']; exact hv
theorem core_len {R : Hl} {row : List Value} {h : Hd} (hx : IsHd R row h) (h8 : h.t.length ≤ 8) : (coreB h).length ≤ 900 := by
  have lz : ∀ k, cI h.c k < 18446744073709551616 → (numB (cI h.c k).toNat).length ≤ 10 := fun k hk => lenB (by omega)
  have hu : ∀ {k : Nat}, hkd[k]? = some (.int .u64) → k ≠ 53 → cI h.c k < 18446744073709551616 := fun {k} hk h53 => by
    rw [hx.I h53]
    exact (hx.rng _ (List.mem_of_getElem? (row_u64 hx.ok hk))).2
  have l16 := flat16 (T := h.t) (fun t ht => (hx.byte.2 t ht).1)
  have a1 := lenB (u64N_lt (cI h.c 0))
  have a2 := lz 1 (hu rfl (by decide))
  have a3 := lenB (u64N_lt (cI h.c 34))
  have a4 := lz 36 (hu rfl (by decide))
  have a5 := lenB (z := h.t.length) (by omega)
  have a6 := lz 54 (hu rfl (by decide))
  have a7 := lz 55 (hu rfl (by decide))
  have a8 := lz 56 (hu rfl (by decide))
  have a9 := lz 57 (hu rfl (by decide))
  have b1 := lz 58 (hu rfl (by decide))
  have b2 := lz 59 (hu rfl (by decide))
  have b3 := lenB (u64N_lt (cI h.c 92))
  have b4 : (flagB (cB h.c 35)).length = 1 := rfl
  unfold coreB coreZ coreA
  simp only [List.length_append, segI_len]
  omega
open Classical in
theorem eBytS_ok : (bytesS 96).OK Tryd.prog := by
  refine Spec.of_fn (Γ := hbΓ) hbΓ_ok ?_
  rintro xs Hs Rs hl1 hl2 ⟨row, R, h, rfl, rfl, hx⟩
  have e0 : Hs = [] := List.length_eq_zero_iff.1 hl1
  subst e0
  obtain ⟨ρ, rfl, w130, hnw, n54, n55, n56⟩ := hdr_env (R := R) hx.ok
  refine ⟨eBytW, ρ, fun _ _ => True, fun _ _ => 0, rfl, ⟨?_, ?_, ?_, ?_⟩, (fun _ h => nomatch h), ?_⟩
  · intro r hr ho; simp [eBytW] at hr; subst hr; cases ho
  · intro r hr ho; simp [eBytW] at hr; subst hr; exact ⟨R, by simp, by show (ρ.h 130).le R; rw [w130]; exact Hl.le_refl _⟩
  · simp [eBytW]
  · intro r hr; simp [eBytW] at hr; subst hr; trivial
  · show Nd.holds _ _ _ eBytNd
    unfold eBytNd
    simp only [Nd.holds, X.pre, X.rel, X.n, Src.ok, Src.len, Src.vals, true_and, and_true, if_true, Nat.mul_one, Nat.add_zero, Nat.reduceAdd, List.length_cons, List.length_nil, bT_tt, bT_ff, bT_bvar, bT_not, bT_and, bT_or, bT_ite, bT_lt, bT_le, bT_eq, bT_beq, bT_seq, bT_hB, bT_his, bT_hby, bT_hism, bT_hks, iev_lit, iev_var, iev_add, iev_sub, iev_mul, iev_wrap, iev_ite, iev_hI, iev_hP, iev_hmlen, sev_ite, sev_slit, sev_sof, sev_svar, TV.ev, SV.ev, CV.ev, List.map_cons, List.map_nil, Res.hl, cpTV, Cp.sv, Ck.cv, cpSVs, Cp.len, Ck.len, newHs_zero, newHs_one, roots_ne, hg0, hr0, hg1, hr1, sc2, rcc0]
    intro q1 g1 p1
    have r1 : (ckCVs 0 hk2).map (CV.ev q1) = hrow ρ 0 := hrow_ag (g1.mono (by omega))
    rw [r1, g1.h 130 (by omega), w130]
    refine ⟨⟨_, R, h, rfl, rfl, hx⟩, fun q2 g2 ⟨F2, hp2, _⟩ => ?_⟩
    have hv := form_res hx hp2
    have hv : q2.b 132 = decide h.Form := by simpa [bev_bvar] using hv
    have G2 : Agree 131 ρ q2 := (g1.mono (by omega)).trans (g2.mono (by omega))
    have r2 : (ckCVs 0 hk2).map (CV.ev q2) = hrow ρ 0 := hrow_ag (G2.mono (by omega))
    rw [hv, decide_eq_true_eq, r2, G2.h 130 (by omega), w130]
    refine ⟨fun hf _ => ⟨[], [], rfl, rfl, ⟨⟨fun k => if k = 0 then -1 else 0, fun _ => false, fun _ => .empty, fun _ => .tuple #[], fun _ => Hl.none⟩, rfl, ⟨Int.le_refl _, Int.le_refl _, Int.le_refl _, Int.le_refl _⟩, trivial⟩, _, R, h, rfl, rfl, hx, ?_⟩, fun hf => ?_⟩
    · unfold bytesOfH
      rw [if_neg hf]; exact ownB_nil _ _
    have h8 := hf.2.1
    have hcl := core_len hx h8
    refine ⟨⟨_, R, h, rfl, rfl, hx, h8⟩, fun q3 g3 ⟨F3, hp3, hF3, hn3⟩ => ?_⟩
    have hO := core_res hx hp3
    rw [← hF3 trivial] at hO
    have hn3 : -1 ≤ q3.i 133 ∧ 0 ≤ q3.i 134 ∧ 0 ≤ q3.i 135 ∧ 0 ≤ q3.i 136 := hn3.1
    have e : (q3.i 135).toNat = (coreB h).length := by
      obtain ⟨x, y, c, e, _⟩ := hO.rd
      simp only [Value.slice.injEq] at e
      exact e.2.1
    have e2 : q3.i 135 = ((coreB h).length : Int) := by omega
    rw [e2] at hO ⊢
    have G3 : Agree 131 ρ q3 := G2.trans (g3.mono (by omega))
    have hcode : (ckCVs 96 (List.replicate 32 (Ck.int .u8))).map (CV.ev q3) = bys (segI h.c 93 32) := by
      rw [cv_code, hrow_ag (G3.mono (by omega))]
      congr 1
      exact List.map_congr_left fun j hj => (hx.I (by omega)).symm
    refine appCvs (b2 := segI h.c 93 32) hO hcode (segI_len _ _ _).symm (by omega) (by rw [segI_len]; omega) fun q4 g4 A4 C4 h4 => ?_
    have hl : q4.i 135 + 32 = ((hdB h).length : Int) := by
      rw [g4.i 135 (by omega), e2]
      unfold hdB
      rw [List.length_append, segI_len]; omega
    refine fun _ => ⟨[], [2], rfl, rfl, ⟨⟨fun k => [q4.i 137, 0, q4.i 135 + 32, q4.i 138].getD k 0, fun _ => false, fun _ => .empty, fun _ => .tuple #[], fun _ => Hl.none⟩, rfl, ⟨A4, Int.le_refl _, by show 0 ≤ q4.i 135 + 32; omega, C4⟩, trivial⟩, _, R, h, rfl, rfl, hx, ?_⟩
    show OwB (hls [q4.h 137]) _ (.slice (slP (q4.i 137) 0) (q4.i 135 + 32).toNat (q4.i 138).toNat) _
    unfold bytesOfH
    rw [hls_one, if_pos hf, hl]; exact h4
open Classical in
theorem rBytS_ok : (bytesS 90).OK Tryd.prog := by
  refine Spec.of_fn (Γ := hbΓ) hbΓ_ok ?_
  rintro xs Hs Rs hl1 hl2 ⟨row, R, h, rfl, rfl, hx⟩
  have e0 : Hs = [] := List.length_eq_zero_iff.1 hl1
  subst e0
  obtain ⟨ρ, rfl, w130, hnw, n54, n55, n56⟩ := hdr_env (R := R) hx.ok
  refine ⟨rBytW, ρ, fun _ _ => True, fun _ _ => 0, rfl, ⟨?_, ?_, ?_, ?_⟩, (fun _ h => nomatch h), ?_⟩
  · intro r hr ho; simp [rBytW] at hr; subst hr; cases ho
  · intro r hr ho; simp [rBytW] at hr; subst hr; exact ⟨R, by simp, by show (ρ.h 130).le R; rw [w130]; exact Hl.le_refl _⟩
  · simp [rBytW]
  · intro r hr; simp [rBytW] at hr; subst hr; trivial
  · show Nd.holds _ _ _ rBytNd
    unfold rBytNd
    simp only [Nd.holds, X.pre, X.rel, X.n, Src.ok, Src.len, Src.vals, true_and, and_true, if_true, Nat.mul_one, Nat.add_zero, Nat.reduceAdd, List.length_cons, List.length_nil, bT_tt, bT_ff, bT_bvar, bT_not, bT_and, bT_or, bT_ite, bT_lt, bT_le, bT_eq, bT_beq, bT_seq, bT_hB, bT_his, bT_hby, bT_hism, bT_hks, iev_lit, iev_var, iev_add, iev_sub, iev_mul, iev_wrap, iev_ite, iev_hI, iev_hP, iev_hmlen, sev_ite, sev_slit, sev_sof, sev_svar, TV.ev, SV.ev, CV.ev, List.map_cons, List.map_nil, Res.hl, cpTV, Cp.sv, Ck.cv, cpSVs, Cp.len, Ck.len, newHs_zero, newHs_one, roots_ne, hg2, hr0, hg3, hr1, sc2, rcc0]
    intro q1 g1 p1
    have r1 : (ckCVs 0 hk2).map (CV.ev q1) = hrow ρ 0 := hrow_ag (g1.mono (by omega))
    rw [r1, g1.h 130 (by omega), w130]
    refine ⟨⟨_, R, h, rfl, rfl, hx⟩, fun q2 g2 ⟨F2, hp2, _⟩ => ?_⟩
    have hv := form_res hx hp2
    have hv : q2.b 132 = decide h.Form := by simpa [bev_bvar] using hv
    have G2 : Agree 131 ρ q2 := (g1.mono (by omega)).trans (g2.mono (by omega))
    have r2 : (ckCVs 0 hk2).map (CV.ev q2) = hrow ρ 0 := hrow_ag (G2.mono (by omega))
    rw [hv, decide_eq_true_eq, r2, G2.h 130 (by omega), w130]
    refine ⟨fun hf _ => ⟨[], [], rfl, rfl, ⟨⟨fun k => if k = 0 then -1 else 0, fun _ => false, fun _ => .empty, fun _ => .tuple #[], fun _ => Hl.none⟩, rfl, ⟨Int.le_refl _, Int.le_refl _, Int.le_refl _, Int.le_refl _⟩, trivial⟩, _, R, h, rfl, rfl, hx, ?_⟩, fun hf => ?_⟩
    · unfold bytesOfH
      rw [if_neg hf]; exact ownB_nil _ _
    have h8 := hf.2.1
    have hcl := core_len hx h8
    refine ⟨⟨_, R, h, rfl, rfl, hx, h8⟩, fun q3 g3 ⟨F3, hp3, hF3, hn3⟩ => ?_⟩
    have hO := core_res hx hp3
    rw [← hF3 trivial] at hO
    have hn3 : -1 ≤ q3.i 133 ∧ 0 ≤ q3.i 134 ∧ 0 ≤ q3.i 135 ∧ 0 ≤ q3.i 136 := hn3.1
    have e : (q3.i 135).toNat = (coreB h).length := by
      obtain ⟨x, y, c, e, _⟩ := hO.rd
      simp only [Value.slice.injEq] at e
      exact e.2.1
    have e2 : q3.i 135 = ((coreB h).length : Int) := by omega
    rw [e2] at hO ⊢
    have G3 : Agree 131 ρ q3 := G2.trans (g3.mono (by omega))
    have hcode : (ckCVs 96 (List.replicate 32 (Ck.int .u8))).map (CV.ev q3) = bys (segI h.c 93 32) := by
      rw [cv_code, hrow_ag (G3.mono (by omega))]
      congr 1
      exact List.map_congr_left fun j hj => (hx.I (by omega)).symm
    refine appCvs (b2 := segI h.c 93 32) hO hcode (segI_len _ _ _).symm (by omega) (by rw [segI_len]; omega) fun q4 g4 A4 C4 h4 => ?_
    have hl : q4.i 135 + 32 = ((hdB h).length : Int) := by
      rw [g4.i 135 (by omega), e2]
      unfold hdB
      rw [List.length_append, segI_len]; omega
    refine fun _ => ⟨[], [2], rfl, rfl, ⟨⟨fun k => [q4.i 137, 0, q4.i 135 + 32, q4.i 138].getD k 0, fun _ => false, fun _ => .empty, fun _ => .tuple #[], fun _ => Hl.none⟩, rfl, ⟨A4, Int.le_refl _, by show 0 ≤ q4.i 135 + 32; omega, C4⟩, trivial⟩, _, R, h, rfl, rfl, hx, ?_⟩
    show OwB (hls [q4.h 137]) _ (.slice (slP (q4.i 137) 0) (q4.i 135 + 32).toNat (q4.i 138).toNat) _
    unfold bytesOfH
    rw [hls_one, if_pos hf, hl]; exact h4
end Go.Proofs.YtomdimlnggpgbaaDoor
