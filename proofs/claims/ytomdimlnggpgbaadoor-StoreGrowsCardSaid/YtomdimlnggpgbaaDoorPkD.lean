/- Layer 5: what is taken out of a text: Read, Num, Raw, Text, Flag, Over, as contracts. Condition: bytes below 256, at most a million. -/
import Derived.Test.YtomdimlnggpgbaaDoorPkC
set_option linter.unusedSimpArgs false
set_option linter.unusedVariables false
set_option linter.constructorNameAsVariable false
namespace Go.Proofs.YtomdimlnggpgbaaDoor
open Go Go.Sx Go.Pk

def inS (a : Nat) (x y c : Int) (n : Nat) (bad : Bool) : Hl := Hl.one a (.cells #[.slice (slP x y) ((n : Int)).toNat c.toNat, .bool bad] 153 (0, 0))
/-- A text that is taken from: its block, and its bytes. -/
structure InIn (H : Hl) (a : Nat) (x y c : Int) (F : Hl) (bs : List Int) (bad : Bool) : Prop where
  rx : -1 ≤ x
  ry : 0 ≤ y
  rc : (bs.length : Int) ≤ c
  byte : bytes256 bs
  len : bs.length ≤ 1000000
  rd : RdB F (.slice (slP x y) ((bs.length : Int)).toNat c.toNat) bs
  na : ¬ F.mem a
  hl : H = hls [inS a x y c bs.length bad, F]
def InAt (H : Hl) (p : Value) (bs : List Int) (bad : Bool) : Prop := ∃ a x y c F, p = .pointer (some ⟨a, 0, none⟩) ∧ InIn H a x y c F bs bad
theorem rdB_mono {F G : Hl} (h : F.le G) {v : Value} {bs : List Int} (hr : RdB F v bs) : RdB G v bs := by
  obtain ⟨x, y, c, e, hy, hr⟩ := hr
  refine ⟨x, y, c, e, hy, hr.imp id fun ⟨h0, hc⟩ => ⟨h0, fun j z hz => ?_⟩⟩
  have := hc j z hz
  unfold Hl.cell at this ⊢
  cases hF : F x.toNat with
  | none => rw [hF] at this; cases this
  | some o => rw [h _ _ hF]; rw [hF] at this; exact this
section
variable {H F : Hl} {a : Nat} {x y c : Int} {bs : List Int} {bad : Bool}
theorem InIn.le (h : InIn H a x y c F bs bad) : (inS a x y c bs.length bad).le H ∧ F.le H := by
  have hd : (inS a x y c bs.length bad).dis F := Hl.one_dis.2 h.na
  rw [h.hl]
  show (inS a x y c bs.length bad).le ((inS a x y c bs.length bad).un (F.un Hl.none)) ∧ F.le ((inS a x y c bs.length bad).un (F.un Hl.none))
  rw [Hl.un_none]
  exact ⟨Hl.un_left _ _, Hl.un_right hd⟩
theorem InIn.split (h : InIn H a x y c F bs bad) : InRd (inS a x y c bs.length bad) F (.pointer (some ⟨a, 0, none⟩)) bs bad := by
  have hrd := h.rd
  rw [Int.toNat_natCast] at hrd
  refine ⟨a, x, y, c.toNat, rfl, ?_, ?_, h.rx, h.ry, hrd⟩
  · unfold inS Hl.cell; rw [Hl.one_self, Int.toNat_natCast]; rfl
  · unfold inS Hl.cell; rw [Hl.one_self]; rfl
theorem InAt.whole {p : Value} (h : InAt H p bs bad) : InRd H H p bs bad := by
  obtain ⟨a, x, y, c, F, rfl, h⟩ := h
  obtain ⟨l1, l2⟩ := h.le
  obtain ⟨a', x', y', c', e, h1, h2, h3, h4, h5⟩ := h.split
  simp only [Value.pointer.injEq, Option.some.injEq, Addr.mk.injEq, and_true] at e
  subst e
  have up : ∀ j v, (inS a x y c bs.length bad).cell a j = some v → H.cell a j = some v := by
    intro j v hv
    have e := l1 a _ (Hl.one_self _ _)
    unfold inS Hl.cell at hv
    rw [Hl.one_self] at hv
    unfold Hl.cell; rw [e]; exact hv
  exact ⟨a, x', y', c', rfl, up 0 _ h1, up 1 _ h2, h3, h4, rdB_mono l2 h5⟩
theorem InAt.uniq {p : Value} {bs' : List Int} {bad' : Bool} (h : InAt H p bs bad) (h' : InAt H p bs' bad') : bs = bs' ∧ bad = bad' := h.whole.uniq h'.whole
theorem InAt.byte {p : Value} (h : InAt H p bs bad) : bytes256 bs ∧ bs.length ≤ 1000000 := by
  obtain ⟨a, x, y, c, F, _, h⟩ := h
  exact ⟨h.byte, h.len⟩
end
def inMem : Mem := [.blk 0 [.sl (.var 1) (.var 2) (.var 3) (.var 4), .bool (.bvar 6)] 153, .hp 7 [] [.var 1] []]
def inEnv (a : Nat) (x y c : Int) (bs : List Int) (bad : Bool) (F : Hl) (z : Int) : Env := envI [(a : Int), x, y, bs.length, c, z] bad [Hl.none, Hl.none, Hl.none, Hl.none, Hl.none, Hl.none, Hl.none, F]
section
variable {H F : Hl} {a : Nat} {x y c : Int} {bs : List Int} {bad : Bool}
theorem inEntry (h : InIn H a x y c F bs bad) (z : Int) : Entry (inEnv a x y c bs bad F z) inMem [H] [] := by
  obtain ⟨l1, l2⟩ := h.le
  have hb : (Res.blk 0 [.sl (.var 1) (.var 2) (.var 3) (.var 4), .bool (.bvar 6)] 153).hl (inEnv a x y c bs bad F z) = inS a x y c bs.length bad := by
    show Hl.one ((a : Int)).toNat (.cells #[.slice (slP x y) ((bs.length : Int)).toNat c.toNat, .bool bad] 153 (0, 0)) = _
    rw [Int.toNat_natCast]; rfl
  refine ⟨fun r hr ho => ⟨H, by simp, ?_⟩, fun r hr ho => ?_, ?_, fun r hr => ?_⟩
  · simp only [inMem, List.mem_cons, List.mem_nil_iff, or_false] at hr
    rcases hr with rfl | rfl
    · rw [hb]; exact l1
    · exact l2
  · simp only [inMem, List.mem_cons, List.mem_nil_iff, or_false] at hr
    rcases hr with rfl | rfl <;> cases ho
  · unfold inMem
    refine List.Pairwise.cons (fun r hr _ _ => ?_) (List.Pairwise.cons (fun r hr => by cases hr) List.Pairwise.nil)
    rw [List.mem_singleton] at hr
    subst hr
    rw [hb]
    exact Hl.one_dis.2 h.na
  · simp only [inMem, List.mem_cons, List.mem_nil_iff, or_false] at hr
    rcases hr with rfl | rfl
    · show (0 : Int) ≤ (a : Int); omega
    · trivial
/-- A way out of a walk over a text that is taken from. -/
theorem inOut (h : InIn H a x y c F bs bad) {z : Int} {q : Env} (hq : Agree 8 (inEnv a x y c bs bad F z) q) {Y N C g : E} {y' c' : Int} {bs' : List Int} {bad' : Bool} {v7 : List Nat} {t7 : List E} {t : Mem} (hY : iev q Y = y') (hN : iev q N = bs'.length) (hC : iev q C = c') (hg : bev q g = bad') (hy : 0 ≤ y') (hc : (bs'.length : Int) ≤ c') (hb : bytes256 bs') (hl : bs'.length ≤ bs.length) (hr : RdB F (.slice (slP x y') ((bs'.length : Int)).toNat c'.toNat) bs') :
    InAt (uni q (.blk 0 [.sl (.var 1) Y N C, .bool g] 153 :: .hp 7 v7 t7 [] :: t) [0, 1]) (.pointer (some ⟨a, 0, none⟩)) bs' bad' := by
  have hlen := h.len
  refine ⟨a, x, y', c', F, rfl, h.rx, hy, hc, hb, by omega, hr, h.na, ?_⟩
  show hls [Hl.one (q.i 0).toNat (.cells #[.slice (slP (q.i 1) (iev q Y)) (iev q N).toNat (iev q C).toNat, .bool (bev q g)] 153 (0, 0)), q.h 7] = _
  rw [hY, hN, hC, hg, hq.i 0 (by omega), hq.i 1 (by omega), hq.h 7 (by omega)]
  show hls [Hl.one ((a : Int)).toNat _, F] = _
  rw [Int.toNat_natCast]; rfl
theorem bytes_drop (h : bytes256 bs) (m : Nat) : bytes256 (bs.drop m) := fun b hb => h b (List.mem_of_mem_drop hb)
/-- What is left behind some bytes. -/
theorem rd_drop (h : InIn H a x y c F bs bad) {m : Nat} (hm : m ≤ bs.length) : RdB F (.slice (slP x (if c = m then y else y + m)) (((bs.drop m).length : Int)).toNat (c - m).toNat) (bs.drop m) := by
  obtain ⟨_, hr⟩ := h.rd.at h.rx h.ry (by omega)
  have hy := h.ry
  refine ⟨x, if c = m then y else y + m, (c - m).toNat, by rw [Int.toNat_natCast], by split <;> omega, ?_⟩
  rcases hr with ⟨h1, h2⟩ | ⟨h0, hc⟩
  · left
    exact ⟨h1, by rw [h2]; simp⟩
  · right
    refine ⟨h0, fun j z hz => ?_⟩
    rw [List.getElem?_drop] at hz
    have hj := (List.getElem?_eq_some_iff.1 hz).1
    have hrc := h.rc
    rw [if_neg (by omega), show (y + (m : Int)).toNat + j = y.toNat + (m + j) by omega]
    exact hc _ z hz
end
theorem iev_drop (q : Env) (C M Y : E) : iev q (.ite (.eq C M) Y (.add Y M)) = if iev q C = iev q M then iev q Y else iev q Y + iev q M := by
  simp only [iev_ite, bT_eq, iev_add]
/-! ### What each does -/
def inNum (bs : List Int) (bad : Bool) (most : Int) : Int × List Int × Bool := if bad = true ∨ (numR bs).2 = 0 ∨ most < ((numR bs).1 : Int) then (0, bs, true) else ((numR bs).1, bs.drop (numR bs).2, false)
def inRaw (bs : List Int) (bad : Bool) (n : Int) : List Int × List Int × Bool := if bad = true ∨ n < 0 ∨ (bs.length : Int) < n then ([], bs, true) else (bs.take n.toNat, bs.drop n.toNat, false)
def inText (bs : List Int) (bad : Bool) (most : Int) : List Int × List Int × Bool :=
  if bad = true ∨ (numR bs).2 = 0 ∨ most < 0 ∨ min (min most 4096) ((bs.length : Int) - (numR bs).2) < ((numR bs).1 : Int) then ([], bs, true) else ((bs.drop (numR bs).2).take (numR bs).1, bs.drop ((numR bs).2 + (numR bs).1), false)
def inFlag (bs : List Int) (bad : Bool) : Bool × List Int × Bool := if bad = true ∨ bs = [] ∨ 1 < bs.getD 0 0 then (false, bs, true) else (decide (bs.getD 0 0 = 1), bs.drop 1, false)
theorem numR_le {bs : List Int} (hb : bytes256 bs) : (numR bs).2 ≤ bs.length ∧ (numR bs).1 < 18446744073709551616 := by
  unfold numR
  cases h : numAt bs with
  | none => exact ⟨Nat.zero_le _, by decide⟩
  | some r =>
    obtain ⟨x, m⟩ := r
    obtain ⟨_, h2, _, h4⟩ := numAt_dec hb h
    exact ⟨h2, h4⟩
def readPS : Sx.Spec where
  fn := 48
  own := []
  rd := [0]
  res := [.one .ptr]
  pre := fun xs Hs Rs => ∃ u bs R, xs = [u] ∧ Rs = [R] ∧ RdW R u bs ∧ bytes256 bs ∧ bs.length ≤ 1000000
  post := fun xs Hs Rs v Hs' F => ∃ u bs R, xs = [u] ∧ Rs = [R] ∧ RdW R u bs ∧ InAt F v bs false
def numS : Sx.Spec where
  fn := 49
  own := [.arg 0]
  rd := []
  res := [.one (.int .u64)]
  pre := fun xs Hs Rs => ∃ p most H bs bad, xs = [p, .int .u64 most] ∧ Hs = [H] ∧ InAt H p bs bad
  post := fun xs Hs Rs v Hs' F => ∃ p most H bs bad H', xs = [p, .int .u64 most] ∧ Hs = [H] ∧ InAt H p bs bad ∧ Hs' = [H'] ∧ InAt H' p (inNum bs bad most).2.1 (inNum bs bad most).2.2 ∧ v = .int .u64 (inNum bs bad most).1
def inNumNd : Nd := .and (.pre (.call 0 8 [.sv (.one (.hptr (.var 0) (.lit 0)))] [] [.blk 0 [.sl (.var 1) (.var 2) (.var 3) (.var 4), .bool (.bvar 6)] 153, .hp 7 [] [.var 1] []])) (.ext (.call 0 8 [.sv (.one (.hptr (.var 0) (.lit 0)))] [] [.blk 0 [.sl (.var 1) (.var 2) (.var 3) (.var 4), .bool (.bvar 6)] 153, .hp 7 [] [.var 1] []]) (.and (.imp (.not (.bvar 6)) (.and (.imp (.not (.eq (.var 9) (.lit 0))) (.and (.imp (.lt (.var 5) (.var 8)) (.post [.blk 0 [.sl (.var 1) (.var 2) (.var 3) (.var 4), .bool .tt] 153, .hp 7 [] [.var 1] []] (.sv (.one (.int .u64 (.lit 0)))))) (.imp (.not (.lt (.var 5) (.var 8))) (.and (.e (.le (.lit (-1)) (.var 1))) (.and (.e (.le (.lit 0) (.var 2))) (.and (.e (.le (.lit 0) (.var 9))) (.and (.e (.le (.var 9) (.var 3))) (.and (.e (.le (.var 3) (.var 4))) (.post [.blk 0 [.sl (.var 1) (.ite (.eq (.var 4) (.var 9)) (.var 2) (.add (.var 2) (.var 9))) (.sub (.var 3) (.var 9)) (.sub (.var 4) (.var 9)), .bool (.bvar 6)] 153, .hp 7 [] [.var 1] []] (.sv (.one (.int .u64 (.var 8))))))))))))) (.imp (.eq (.var 9) (.lit 0)) (.post [.blk 0 [.sl (.var 1) (.var 2) (.var 3) (.var 4), .bool .tt] 153, .hp 7 [] [.var 1] []] (.sv (.one (.int .u64 (.lit 0)))))))) (.imp (.bvar 6) (.post [.blk 0 [.sl (.var 1) (.var 2) (.var 3) (.var 4), .bool .tt] 153, .hp 7 [] [.var 1] []] (.sv (.one (.int .u64 (.lit 0))))))))
def inΓ : List Sx.Spec := [numberS, cloneBS]
theorem inΓ_ok : ∀ t ∈ inΓ, t.OK Tryd.prog := fun t ht => by
  simp only [inΓ, List.mem_cons, List.mem_nil_iff, or_false] at ht
  rcases ht with rfl | rfl
  · exact numberS_ok
  · exact cloneBS_ok
theorem ig0 : inΓ[0]? = some numberS := rfl
theorem ig1 : inΓ[1]? = some cloneBS := rfl
theorem ir0 : numberS.res = [.one (.int .u64), .one (.int .i64)] := rfl
theorem ir1 : cloneBS.res = [.one .sl] := rfl
theorem ic1 : (cpRoots 0 [Cp.one .sl] ≠ []) = True := by simp [cpRoots, Cp.roots, Ck.root]
def inNumW : Walk Tryd.prog inΓ numS.fn where
  Λ := noLoops
  args := [TP (.var 0) (.lit 0), TI .u64 (.var 5)]
  mem := inMem
  nv := 8
  nd := inNumNd
  ok := by kernel_rfl
theorem inBlk_hl {q : Env} {a : Nat} {x y c : Int} {n : Nat} {bad : Bool} (h0 : q.i 0 = a) (h1 : q.i 1 = x) (h2 : q.i 2 = y) (h3 : q.i 3 = n) (h4 : q.i 4 = c) (h6 : q.b 6 = bad) :
    Hl.one (q.i 0).toNat (.cells #[.slice (slP (q.i 1) (q.i 2)) (q.i 3).toNat (q.i 4).toNat, .bool (bev q (.bvar 6))] 153 (0, 0)) = inS a x y c n bad := by
  rw [bev_bvar, h0, h1, h2, h3, h4, h6, Int.toNat_natCast]; rfl
theorem numS_ok : numS.OK Tryd.prog := by
  refine Spec.of_fn (Γ := inΓ) inΓ_ok ?_
  rintro xs Hs Rs hl1 hl2 ⟨p, most, H, bs, bad, rfl, rfl, a, x, y, c, F, rfl, h⟩
  have e1 : Rs = [] := List.length_eq_zero_iff.1 hl2
  subst e1
  refine ⟨inNumW, inEnv a x y c bs bad F most, fun _ _ => True, fun _ _ => 0, ?_, inEntry h most, (fun _ h => nomatch h), ?_⟩
  · show [Value.pointer (slP (a : Int) 0), Value.int .u64 most] = _
    rw [ptr0]
  · show Nd.holds _ _ _ inNumNd
    generalize hρ : inEnv a x y c bs bad F most = ρ
    have v0 : ρ.i 0 = a := by rw [← hρ]; rfl
    have v1 : ρ.i 1 = x := by rw [← hρ]; rfl
    have v2 : ρ.i 2 = y := by rw [← hρ]; rfl
    have v3 : ρ.i 3 = bs.length := by rw [← hρ]; rfl
    have v4 : ρ.i 4 = c := by rw [← hρ]; rfl
    have v5 : ρ.i 5 = most := by rw [← hρ]; rfl
    have b6 : ρ.b 6 = bad := by rw [← hρ]; rfl
    have w7 : ρ.h 7 = F := by rw [← hρ]; rfl
    obtain ⟨hn1, hn2⟩ := numR_le h.byte
    have hrx := h.rx
    have hry := h.ry
    have hrc := h.rc
    have out : ∀ (q : Env) (Y N C g e : E) (m : Nat) (t : Mem) (bad' : Bool) (r : Int), Agree 8 ρ q → m ≤ bs.length → iev q Y = (if c = m then y else y + m) → iev q N = bs.length - m → iev q C = c - m → bev q g = bad' → iev q e = r → inNum bs bad most = (r, bs.drop m, bad') →
        postOf numS [.pointer (some ⟨a, 0, none⟩), .int .u64 most] [H] [] q (.blk 0 [.sl (.var 1) Y N C, .bool g] 153 :: .hp 7 [] [.var 1] [] :: t) (.sv (.one (.int .u64 e))) := by
      intro q Y N C g e m t bad' r hq hm hY hN hC hg he hs _
      rw [← hρ] at hq
      refine ⟨[[0, 1]], [], rfl, rfl, ⟨⟨fun _ => r, fun _ => false, fun _ => .empty, fun _ => .tuple #[], fun _ => Hl.none⟩, by show Value.int .u64 (iev q e) = _; rw [he]; rfl, trivial, trivial⟩, _, most, H, bs, bad, _, rfl, rfl, ⟨a, x, y, c, F, rfl, h⟩, rfl, ?_, by show Value.int .u64 (iev q e) = _; rw [hs, he]⟩
      rw [hs]
      have hd : ((bs.drop m).length : Int) = bs.length - m := by rw [List.length_drop]; omega
      exact inOut h hq hY (by rw [hN, hd]) hC hg (by split <;> omega) (by rw [hd]; omega) (bytes_drop h.byte m) (by rw [List.length_drop]; omega) (rd_drop h hm)
    have same : ∀ (q : Env) (t : Mem), Agree 8 ρ q → bad = true ∨ (numR bs).2 = 0 ∨ most < ((numR bs).1 : Int) → postOf numS [.pointer (some ⟨a, 0, none⟩), .int .u64 most] [H] [] q (.blk 0 [.sl (.var 1) (.var 2) (.var 3) (.var 4), .bool .tt] 153 :: .hp 7 [] [.var 1] [] :: t) (.sv (.one (.int .u64 (.lit 0)))) := by
      intro q t hq hf
      refine out q _ _ _ _ _ 0 t true 0 hq (Nat.zero_le _) ?_ ?_ ?_ rfl rfl ?_
      · show q.i 2 = _
        rw [hq.i 2 (by omega), v2]; split <;> omega
      · show q.i 3 = _
        rw [hq.i 3 (by omega), v3]; omega
      · show q.i 4 = _
        rw [hq.i 4 (by omega), v4]; omega
      · unfold inNum; rw [if_pos hf]; rfl
    unfold inNumNd
    simp only [Nd.holds, X.pre, X.rel, X.n, Src.ok, Src.len, Src.vals, true_and, and_true, if_true, Nat.mul_one, Nat.add_zero, Nat.reduceAdd, List.length_cons, List.length_nil, bT_tt, bT_ff, bT_bvar, bT_not, bT_and, bT_or, bT_ite, bT_lt, bT_le, bT_eq, bT_beq, bT_seq, bT_hB, bT_his, bT_hby, bT_hism, bT_hks, iev_lit, iev_var, iev_add, iev_sub, iev_mul, iev_wrap, iev_ite, iev_hI, iev_hP, iev_hmlen, sev_ite, sev_slit, sev_sof, sev_svar, TV.ev, SV.ev, CV.ev, List.map_cons, List.map_nil, Res.hl, cpTV, Cp.sv, Ck.cv, cpSVs, Cp.len, Ck.len, newHs_zero, newHs_one, roots_ne, ig0, ig1, ir0, ir1, ic1]
    rw [inBlk_hl v0 v1 v2 v3 v4 b6, v0, ptr0, w7]
    refine ⟨⟨_, _, _, bs, bad, rfl, rfl, h.split, h.byte, h.len⟩, fun q g ⟨F1, hp, _, _⟩ => ?_⟩
    have hv := number_post h.split hp
    have hv : q.i 8 = (numR bs).1 ∧ q.i 9 = (numR bs).2 := by simpa using hv
    obtain ⟨h8, h9⟩ := hv
    rw [g.b 6 (by omega), b6, h9, g.i 5 (by omega), v5, h8, g.i 1 (by omega), v1, g.i 2 (by omega), v2, g.i 3 (by omega), v3, g.i 4 (by omega), v4]
    refine ⟨fun hb => ⟨fun hz => ⟨fun hlt => same q _ g (Or.inr (Or.inr hlt)), fun hge => ⟨by omega, hry, by omega, by omega, hrc, ?_⟩⟩, fun hz => same q _ g (Or.inr (Or.inl (by omega)))⟩, fun hb => same q _ g (Or.inl hb)⟩
    refine out q _ _ _ _ _ (numR bs).2 _ false (numR bs).1 g hn1 ?_ ?_ ?_ ?_ h8 ?_
    · rw [iev_drop, iev_var, iev_var, iev_var, h9, g.i 4 (by omega), v4, g.i 2 (by omega), v2]
    · show q.i 3 - q.i 9 = _
      rw [h9, g.i 3 (by omega), v3]
    · show q.i 4 - q.i 9 = _
      rw [h9, g.i 4 (by omega), v4]
    · show q.b 6 = _
      rw [g.b 6 (by omega), b6]; exact Bool.eq_false_iff.2 hb
    · unfold inNum
      have hne : ¬ (bad = true ∨ (numR bs).2 = 0 ∨ most < ((numR bs).1 : Int)) := by
        rintro (e | e | e)
        · exact hb e
        · exact hz (by omega)
        · exact hge e
      rw [if_neg hne]
end Go.Proofs.YtomdimlnggpgbaaDoor
