/- Layer 5: what is taken out of a text: Text, Flag, Over, as contracts. Condition: bytes below 256, at most a million. -/
import Derived.Test.YtomdimlnggpgbaaGreatDoorQd
set_option linter.unusedSimpArgs false
set_option linter.unusedVariables false
set_option linter.constructorNameAsVariable false
namespace Go.Proofs.YtomdimlnggpgbaaGreatDoor
open Go Go.Sx Go.Pk
def textS : Sx.Spec where
  fn := 82
  own := [.arg 0]
  rd := []
  res := [.one .sl]
  pre := fun xs Hs Rs => ∃ p most H bs bad, xs = [p, .int .i64 most] ∧ Hs = [H] ∧ InAt H p bs bad ∧ most ≤ 1000000
  post := fun xs Hs Rs v Hs' F => ∃ p most H bs bad H', xs = [p, .int .i64 most] ∧ Hs = [H] ∧ InAt H p bs bad ∧ Hs' = [H'] ∧ InAt H' p (inText bs bad most).2.1 (inText bs bad most).2.2 ∧ OwB F 5 v (inText bs bad most).1
def textNd : Nd := .and (.pre (.call 0 8 [.sv (.one (.hptr (.var 0) (.lit 0)))] [] [.blk 0 [.sl (.var 1) (.var 2) (.var 3) (.var 4), .bool (.bvar 6)] 203, .hp 7 [] [.var 1] []])) (.ext (.call 0 8 [.sv (.one (.hptr (.var 0) (.lit 0)))] [] [.blk 0 [.sl (.var 1) (.var 2) (.var 3) (.var 4), .bool (.bvar 6)] 203, .hp 7 [] [.var 1] []]) (.and (.imp (.not (.bvar 6)) (.and (.imp (.not (.eq (.var 9) (.lit 0))) (.and (.imp (.not (.lt (.var 5) (.lit 0))) (.and (.e (.le (.lit 0) (.var 3))) (.and (.imp (.lt (.wrap .u64 (.ite (.lt (.wrap .i64 (.sub (.var 3) (.var 9))) (.ite (.lt (.lit 4096) (.var 5)) (.lit 4096) (.var 5))) (.wrap .i64 (.sub (.var 3) (.var 9))) (.ite (.lt (.lit 4096) (.var 5)) (.lit 4096) (.var 5)))) (.var 8)) (.post [.blk 0 [.sl (.var 1) (.var 2) (.var 3) (.var 4), .bool .tt] 203, .hp 7 [] [.var 1] []] (.sv (.one (.sl (.lit (-1)) (.lit 0) (.lit 0) (.lit 0)))))) (.imp (.not (.lt (.wrap .u64 (.ite (.lt (.wrap .i64 (.sub (.var 3) (.var 9))) (.ite (.lt (.lit 4096) (.var 5)) (.lit 4096) (.var 5))) (.wrap .i64 (.sub (.var 3) (.var 9))) (.ite (.lt (.lit 4096) (.var 5)) (.lit 4096) (.var 5)))) (.var 8))) (.and (.e (.le (.lit (-1)) (.var 1))) (.and (.e (.le (.lit 0) (.var 2))) (.and (.e (.le (.lit 0) (.var 9))) (.and (.e (.le (.var 9) (.var 3))) (.and (.e (.le (.var 3) (.var 4))) (.and (.imp (.not (.lt (.wrap .i64 (.var 8)) (.lit 0))) (.and (.e (.le (.lit 0) (.sub (.var 3) (.var 9)))) (.and (.imp (.lt (.sub (.var 3) (.var 9)) (.wrap .i64 (.var 8))) (.post [.blk 0 [.sl (.var 1) (.ite (.eq (.var 4) (.var 9)) (.var 2) (.add (.var 2) (.var 9))) (.sub (.var 3) (.var 9)) (.sub (.var 4) (.var 9)), .bool .tt] 203, .hp 7 [] [.var 1] []] (.sv (.one (.sl (.lit (-1)) (.lit 0) (.lit 0) (.lit 0)))))) (.imp (.not (.lt (.sub (.var 3) (.var 9)) (.wrap .i64 (.var 8)))) (.and (.e (.le (.lit 0) (.ite (.eq (.var 4) (.var 9)) (.var 2) (.add (.var 2) (.var 9))))) (.and (.e (.le (.wrap .i64 (.var 8)) (.sub (.var 4) (.var 9)))) (.and (.pre (.call 1 10 [.sv (.one (.sl (.var 1) (.ite (.eq (.var 4) (.var 9)) (.var 2) (.add (.var 2) (.var 9))) (.wrap .i64 (.var 8)) (.sub (.var 4) (.var 9))))] [] [.hp 7 [] [.var 1] []])) (.ext (.call 1 10 [.sv (.one (.sl (.var 1) (.ite (.eq (.var 4) (.var 9)) (.var 2) (.add (.var 2) (.var 9))) (.wrap .i64 (.var 8)) (.sub (.var 4) (.var 9))))] [] [.hp 7 [] [.var 1] []]) (.and (.e (.le (.wrap .i64 (.var 8)) (.sub (.var 3) (.var 9)))) (.and (.e (.le (.sub (.var 3) (.var 9)) (.sub (.var 4) (.var 9)))) (.post [.blk 0 [.sl (.var 1) (.ite (.eq (.sub (.var 4) (.var 9)) (.wrap .i64 (.var 8))) (.ite (.eq (.var 4) (.var 9)) (.var 2) (.add (.var 2) (.var 9))) (.add (.ite (.eq (.var 4) (.var 9)) (.var 2) (.add (.var 2) (.var 9))) (.wrap .i64 (.var 8)))) (.sub (.sub (.var 3) (.var 9)) (.wrap .i64 (.var 8))) (.sub (.sub (.var 4) (.var 9)) (.wrap .i64 (.var 8))), .bool (.bvar 6)] 203, .hp 7 [] [.var 1] [], .hp 10 [] [.var 10] []] (.sv (.one (.sl (.var 10) (.var 11) (.var 12) (.var 13))))))))))))))) (.imp (.lt (.wrap .i64 (.var 8)) (.lit 0)) (.post [.blk 0 [.sl (.var 1) (.ite (.eq (.var 4) (.var 9)) (.var 2) (.add (.var 2) (.var 9))) (.sub (.var 3) (.var 9)) (.sub (.var 4) (.var 9)), .bool .tt] 203, .hp 7 [] [.var 1] []] (.sv (.one (.sl (.lit (-1)) (.lit 0) (.lit 0) (.lit 0)))))))))))))))) (.imp (.lt (.var 5) (.lit 0)) (.post [.blk 0 [.sl (.var 1) (.var 2) (.var 3) (.var 4), .bool .tt] 203, .hp 7 [] [.var 1] []] (.sv (.one (.sl (.lit (-1)) (.lit 0) (.lit 0) (.lit 0)))))))) (.imp (.eq (.var 9) (.lit 0)) (.post [.blk 0 [.sl (.var 1) (.var 2) (.var 3) (.var 4), .bool .tt] 203, .hp 7 [] [.var 1] []] (.sv (.one (.sl (.lit (-1)) (.lit 0) (.lit 0) (.lit 0)))))))) (.imp (.bvar 6) (.post [.blk 0 [.sl (.var 1) (.var 2) (.var 3) (.var 4), .bool .tt] 203, .hp 7 [] [.var 1] []] (.sv (.one (.sl (.lit (-1)) (.lit 0) (.lit 0) (.lit 0))))))))
def textW : Walk Tryz.prog inΓ textS.fn where
  Λ := noLoops
  args := [TP (.var 0) (.lit 0), TI .i64 (.var 5)]
  mem := inMem
  nv := 8
  nd := textNd
  ok := by kernel_rfl
theorem ite_min {a b : Int} : (if a < b then a else b) = min a b := by split <;> omega
theorem textS_ok : textS.OK Tryz.prog := by
  refine Spec.of_fn (Γ := inΓ) inΓ_ok ?_
  rintro xs Hs Rs hl1 hl2 ⟨p, most, H, bs, bad, rfl, rfl, ⟨a, x, y, c, F, rfl, h⟩, hmost⟩
  have e1 : Rs = [] := List.length_eq_zero_iff.1 hl2
  subst e1
  refine ⟨textW, inEnv a x y c bs bad F most, fun _ _ => True, fun _ _ => 0, ?_, inEntry h most, (fun _ h => nomatch h), ?_⟩
  · show [Value.pointer (slP (a : Int) 0), Value.int .i64 most] = _
    rw [ptr0]
  · show Nd.holds _ _ _ textNd
    generalize hρ : inEnv a x y c bs bad F most = ρ
    have v0 : ρ.i 0 = a := by rw [← hρ]; rfl
    have v1 : ρ.i 1 = x := by rw [← hρ]; rfl
    have v2 : ρ.i 2 = y := by rw [← hρ]; rfl
    have v3 : ρ.i 3 = bs.length := by rw [← hρ]; rfl
    have v4 : ρ.i 4 = c := by rw [← hρ]; rfl
    have v5 : ρ.i 5 = most := by rw [← hρ]; rfl
    have b6 : ρ.b 6 = bad := by rw [← hρ]; rfl
    have w7 : ρ.h 7 = F := by rw [← hρ]; rfl
    obtain ⟨hn1, hn2⟩ := numR_le h.byte
    have hrx := h.rx
    have hry := h.ry
    have hrc := h.rc
    have hlen := h.len
    have fail : ∀ (q : Env) (t : Mem), Agree 8 ρ q → bad = true ∨ (numR bs).2 = 0 ∨ most < 0 ∨ min (min most 4096) ((bs.length : Int) - (numR bs).2) < ((numR bs).1 : Int) → postOf textS [.pointer (some ⟨a, 0, none⟩), .int .i64 most] [H] [] q (.blk 0 [.sl (.var 1) (.var 2) (.var 3) (.var 4), .bool .tt] 203 :: .hp 7 [] [.var 1] [] :: t) (.sv (.one (.sl (.lit (-1)) (.lit 0) (.lit 0) (.lit 0)))) := by
      intro q t hq hf _
      have hs : inText bs bad most = ([], bs, true) := by unfold inText; rw [if_pos hf]
      refine ⟨[[0, 1]], [], rfl, rfl, ⟨⟨fun k => if k = 0 then -1 else 0, fun _ => false, fun _ => .empty, fun _ => .tuple #[], fun _ => Hl.none⟩, rfl, ⟨Int.le_refl _, Int.le_refl _, Int.le_refl _, Int.le_refl _⟩, trivial⟩, _, most, H, bs, bad, _, rfl, rfl, ⟨a, x, y, c, F, rfl, h⟩, rfl, ?_, ?_⟩
      · rw [hs]
        have k2 : iev q (.var 2) = y := by rw [iev_var, hq.i 2 (by omega), v2]
        have k3 : iev q (.var 3) = bs.length := by rw [iev_var, hq.i 3 (by omega), v3]
        have k4 : iev q (.var 4) = c := by rw [iev_var, hq.i 4 (by omega), v4]
        rw [← hρ] at hq
        exact inOut h hq k2 k3 k4 rfl hry hrc h.byte (Nat.le_refl _) h.rd
      · rw [hs]; exact ownB_nil _ _
    unfold textNd
    simp only [Nd.holds, X.pre, X.rel, X.n, Src.ok, Src.len, Src.vals, true_and, and_true, if_true, Nat.mul_one, Nat.add_zero, Nat.reduceAdd, List.length_cons, List.length_nil, bT_tt, bT_ff, bT_bvar, bT_not, bT_and, bT_or, bT_ite, bT_lt, bT_le, bT_eq, bT_beq, bT_seq, bT_hB, bT_his, bT_hby, bT_hism, bT_hks, iev_lit, iev_var, iev_add, iev_sub, iev_mul, iev_wrap, iev_ite, iev_hI, iev_hP, iev_hmlen, sev_ite, sev_slit, sev_sof, sev_svar, TV.ev, SV.ev, CV.ev, List.map_cons, List.map_nil, Res.hl, cpTV, Cp.sv, Ck.cv, cpSVs, Cp.len, Ck.len, newHs_zero, newHs_one, roots_ne, ig0, ig1, ir0, ir1, ic1]
    rw [inBlk_hl v0 v1 v2 v3 v4 b6, v0, ptr0, w7]
    refine ⟨⟨_, _, _, bs, bad, rfl, rfl, h.split, h.byte, h.len⟩, fun q g ⟨F1, hp, _, _⟩ => ?_⟩
    have hv := number_post h.split hp
    have hv : q.i 8 = (numR bs).1 ∧ q.i 9 = (numR bs).2 := by simpa using hv
    obtain ⟨h8, h9⟩ := hv
    generalize hm : (numR bs).2 = m at *
    generalize hk : (numR bs).1 = k at *
    have j1 : q.i 1 = x := by rw [g.i 1 (by omega), v1]
    have j2 : q.i 2 = y := by rw [g.i 2 (by omega), v2]
    have j3 : q.i 3 = bs.length := by rw [g.i 3 (by omega), v3]
    have j4 : q.i 4 = c := by rw [g.i 4 (by omega), v4]
    have j5 : q.i 5 = most := by rw [g.i 5 (by omega), v5]
    rw [g.b 6 (by omega), b6, h9, h8, j1, j2, j3, j4, j5]
    rw [wrap_i64 (n := (bs.length : Int) - (m : Int)) (by omega) (by omega)]
    simp only [ite_min]
    have emin : min ((bs.length : Int) - (m : Int)) (min 4096 most) = min (min most 4096) ((bs.length : Int) - (m : Int)) := by omega
    rw [emin]
    refine ⟨fun hb => ⟨fun hz => ⟨fun hmn => ⟨by omega, fun hlt => ?_, fun hge => ?_⟩, fun hmn => fail q _ g (Or.inr (Or.inr (Or.inl hmn)))⟩, fun hz => fail q _ g (Or.inr (Or.inl (by omega)))⟩, fun hb => fail q _ g (Or.inl hb)⟩
    · rw [wu64 (by omega) (by omega)] at hlt
      exact fail q _ g (Or.inr (Or.inr (Or.inr hlt)))
    · rw [wu64 (by omega) (by omega)] at hge
      have hwk : IntKind.i64.wrap (k : Int) = k := wrap_i64 (by omega) (by omega)
      have hY : iev q (.ite (.eq (.var 4) (.var 9)) (.var 2) (.add (.var 2) (.var 9))) = if c = (m : Int) then y else y + m := by
        rw [iev_drop, iev_var, iev_var, iev_var, j4, j2, h9]
      have hYq : ∀ q', Agree 10 q q' → iev q' (.ite (.eq (.var 4) (.var 9)) (.var 2) (.add (.var 2) (.var 9))) = if c = (m : Int) then y else y + m := by
        intro q' g'
        rw [iev_drop, iev_var, iev_var, iev_var, g'.i 4 (by omega), g'.i 2 (by omega), g'.i 9 (by omega), j4, j2, h9]
      rw [hwk]
      refine ⟨hrx, hry, by omega, by omega, hrc, fun _ => ⟨by omega, fun hlt2 => absurd hlt2 (by omega), fun _ => ?_⟩, fun hneg => absurd hneg (by omega)⟩
      have hs : inText bs bad most = ((bs.drop m).take k, bs.drop (m + k), false) := by
        unfold inText
        rw [hm, hk]
        have : ¬ (bad = true ∨ m = 0 ∨ most < 0 ∨ min (min most 4096) ((bs.length : Int) - (m : Int)) < (k : Int)) := by
          rintro (e | e | e | e)
          · exact hb e
          · exact hz (by omega)
          · omega
          · exact hge e
        rw [if_neg this]
      have hmk : m + k ≤ bs.length := by omega
      have ht := rd_take h (m := m) (k := k) hmk (c - m).toNat
      have hd1 := rd_drop h (m := m) (by omega)
      have hdl : ((bs.drop m).length : Int) = bs.length - m := by rw [List.length_drop]; omega
      have hY0 : 0 ≤ (if c = (m : Int) then y else y + m) := by split <;> omega
      have h2 : InIn (hls [inS a x (if c = (m : Int) then y else y + m) (c - m) (bs.drop m).length false, F]) a x (if c = (m : Int) then y else y + m) (c - m) F (bs.drop m) false :=
        ⟨hrx, hY0, by omega, bytes_drop h.byte m, by rw [List.length_drop]; omega, hd1, h.na, rfl⟩
      have hd2 := rd_drop h2 (m := k) (by rw [List.length_drop]; omega)
      rw [List.drop_drop] at hd2
      rw [g.h 7 (by omega), w7]
      refine ⟨hY0, by omega, ⟨_, _, F, rfl, rfl, (by rw [Int.toNat_natCast]; exact ht), by rw [List.length_take, List.length_drop]; omega⟩, fun q2 g2 ⟨F2, hp2, hF2, hnm⟩ => ?_⟩
      have hO := clone_post (R := F) (u := .slice (slP x (if c = (m : Int) then y else y + m)) ((k : Int)).toNat (c - m).toNat) (by rw [Int.toNat_natCast]; exact ht) hp2
      rw [← hF2 trivial] at hO
      have G2 : Agree 8 ρ q2 := g.trans (g2.mono (by omega))
      rw [g2.i 8 (by omega), g2.i 9 (by omega), G2.i 3 (by omega), G2.i 4 (by omega), h8, h9, v3, v4, hwk]
      refine ⟨by omega, by omega, fun _ => ?_⟩
      have eC : iev q2 (.sub (.var 4) (.var 9)) = c - m := by
        show q2.i 4 - q2.i 9 = _
        rw [G2.i 4 (by omega), g2.i 9 (by omega), v4, h9]
      have eN : iev q2 (.sub (.var 3) (.var 9)) = bs.length - m := by
        show q2.i 3 - q2.i 9 = _
        rw [G2.i 3 (by omega), g2.i 9 (by omega), v3, h9]
      have eK : iev q2 (.wrap .i64 (.var 8)) = k := by
        show IntKind.i64.wrap (q2.i 8) = _
        rw [g2.i 8 (by omega), h8, hwk]
      have hlast : ((bs.drop (m + k)).length : Int) = bs.length - m - k := by rw [List.length_drop]; omega
      have g6 : bev q2 (.bvar 6) = false := by rw [bev_bvar, G2.b 6 (by omega), b6]; exact Bool.eq_false_iff.2 hb
      rw [← hρ] at G2
      refine ⟨[[0, 1]], [2], rfl, rfl, ⟨⟨fun k => q2.i (10 + k), fun _ => false, fun _ => .empty, fun _ => .tuple #[], fun _ => Hl.none⟩, rfl, hnm.1, trivial⟩, _, most, H, bs, bad, _, rfl, rfl, ⟨a, x, y, c, F, rfl, h⟩, rfl, ?_, ?_⟩
      · rw [hs]
        refine inOut h G2 ?_ ?_ ?_ g6 (y' := if c - (m : Int) = k then (if c = (m : Int) then y else y + m) else (if c = (m : Int) then y else y + m) + k) (by split <;> omega) (c' := c - m - k) (by rw [hlast]; omega) (bytes_drop h.byte _) (by rw [List.length_drop]; omega) hd2
        · rw [iev_drop, eC, eK, hYq q2 g2]
        · rw [iev_sub, eN, eK, hlast]
        · rw [iev_sub, eC, eK]
      · rw [hs]
        show OwB (hls [q2.h 10]) _ _ _
        rw [hls_one]; exact hO
end Go.Proofs.YtomdimlnggpgbaaGreatDoor
namespace Go.Proofs.YtomdimlnggpgbaaGreatDoor
open Go Go.Sx Go.Pk
abbrev svb (x : Int) (n : Nat) (c : Int) : Value := .slice (slP x 0) ((n : Int)).toNat c.toNat
def outS (a : Nat) (x c : Int) (n : Nat) (lg : Bool) : Hl := Hl.one a (.cells #[svb x n c, .bool lg] 208 (0, 0))
structure OutIn (H : Hl) (a : Nat) (x c : Int) (F : Hl) (bs : List Int) (lg : Bool) : Prop where
  rx : -1 ≤ x
  rc : 0 ≤ c
  own : OwB F 5 (svb x bs.length c) bs
  na : ¬ F.mem a
  hl : H = hls [outS a x c bs.length lg, F]
def OutAt (H : Hl) (p : Value) (bs : List Int) (lg : Bool) : Prop := ∃ a x c F, p = .pointer (some ⟨a, 0, none⟩) ∧ OutIn H a x c F bs lg
section
variable {H F : Hl} {a : Nat} {x c : Int} {bs : List Int} {lg : Bool}
theorem OutIn.le (h : OutIn H a x c F bs lg) : (outS a x c bs.length lg).le H ∧ F.le H := by
  have hd : (outS a x c bs.length lg).dis F := Hl.one_dis.2 h.na
  rw [h.hl]
  show (outS a x c bs.length lg).le ((outS a x c bs.length lg).un (F.un Hl.none)) ∧ F.le ((outS a x c bs.length lg).un (F.un Hl.none))
  rw [Hl.un_none]
  exact ⟨Hl.un_left _ _, Hl.un_right hd⟩
theorem OutAt.whole {p : Value} (h : OutAt H p bs lg) : ∃ (a : Nat) (x c : Int), p = .pointer (some ⟨a, 0, none⟩) ∧ -1 ≤ x ∧ 0 ≤ c ∧ H.cell a 0 = some (svb x bs.length c) ∧ H.cell a 1 = some (.bool lg) ∧ RdB H (svb x bs.length c) bs := by
  obtain ⟨a, x, c, F, rfl, h⟩ := h
  obtain ⟨l1, l2⟩ := h.le
  have e := l1 a _ (Hl.one_self _ _)
  exact ⟨a, x, c, rfl, h.rx, h.rc, by unfold Hl.cell; rw [e]; rfl, by unfold Hl.cell; rw [e]; rfl, rdB_mono l2 h.own.rd⟩
theorem OutAt.uniq {p : Value} {bs' : List Int} {lg' : Bool} (h : OutAt H p bs lg) (h' : OutAt H p bs' lg') : bs = bs' ∧ lg = lg' := by
  obtain ⟨a, x, c, rfl, _, _, h0, h1, hr⟩ := h.whole
  obtain ⟨a', x', c', e, _, _, k0, k1, kr⟩ := h'.whole
  simp only [Value.pointer.injEq, Option.some.injEq, Addr.mk.injEq, and_true] at e
  subst e
  rw [h0] at k0
  rw [h1] at k1
  simp only [Option.some.injEq, Value.bool.injEq] at k0 k1
  rw [← k0] at kr
  exact ⟨hr.uniq kr, k1⟩
end
theorem OutAt.new (a : Nat) : OutAt (Hl.one a (.cells #[.slice none 0 0, .bool false] 208 (0, 0))) (.pointer (some ⟨a, 0, none⟩)) [] false := by
  refine ⟨a, -1, 0, Hl.none, rfl, ⟨Int.le_refl _, Int.le_refl _, ⟨rfl, Or.inl ⟨rfl, rfl⟩⟩, fun h => (by simp [Hl.mem, Hl.none] at h), ?_⟩⟩
  show _ = (outS a (-1) 0 0 false).un (Hl.none.un Hl.none)
  rw [Hl.un_none, Hl.un_none]
  rfl
def outMem : Mem := [.blk 0 [.sl (.var 1) (.lit 0) (.var 2) (.var 3), .bool (.bvar 6)] 208, .hp 7 [] [.var 1] []]
def outEnv (a : Nat) (x c : Int) (n : Nat) (lg : Bool) (F : Hl) (z : Int) (l : List Int) (R : Hl) : Env := envI ([(a : Int), x, n, c, 0, z, 0, 0] ++ l) lg [Hl.none, Hl.none, Hl.none, Hl.none, Hl.none, Hl.none, Hl.none, F, Hl.none, Hl.none, Hl.none, Hl.none, R]
section
variable {H F : Hl} {a : Nat} {x c : Int} {bs : List Int} {lg : Bool}
theorem outEntry (h : OutIn H a x c F bs lg) (z : Int) (l : List Int) (R : Hl) : Entry (outEnv a x c bs.length lg F z l R) outMem [H] [] := by
  obtain ⟨l1, l2⟩ := h.le
  have hb : (Res.blk 0 [.sl (.var 1) (.lit 0) (.var 2) (.var 3), .bool (.bvar 6)] 208).hl (outEnv a x c bs.length lg F z l R) = outS a x c bs.length lg := by
    show Hl.one ((a : Int)).toNat (.cells #[svb x bs.length c, .bool lg] 208 (0, 0)) = _
    rw [Int.toNat_natCast]; rfl
  refine ⟨fun r hr ho => ⟨H, by simp, ?_⟩, fun r hr ho => ?_, ?_, fun r hr => ?_⟩
  · simp only [outMem, List.mem_cons, List.mem_nil_iff, or_false] at hr
    rcases hr with rfl | rfl
    · rw [hb]; exact l1
    · exact l2
  · simp only [outMem, List.mem_cons, List.mem_nil_iff, or_false] at hr
    rcases hr with rfl | rfl <;> cases ho
  · unfold outMem
    refine List.Pairwise.cons (fun r hr _ _ => ?_) (List.Pairwise.cons (fun r hr => by cases hr) List.Pairwise.nil)
    rw [List.mem_singleton] at hr
    subst hr
    rw [hb]
    exact Hl.one_dis.2 h.na
  · simp only [outMem, List.mem_cons, List.mem_nil_iff, or_false] at hr
    rcases hr with rfl | rfl
    · show (0 : Int) ≤ (a : Int); omega
    · trivial
theorem outEntry2 (h : OutIn H a x c F bs lg) (z : Int) (l : List Int) (R : Hl) (t : List E) : Entry (outEnv a x c bs.length lg F z l R) (outMem ++ [.ro 12 t false]) [H] [R] := by
  obtain ⟨h1, h2, h3, h4⟩ := outEntry h z l R
  refine ⟨fun r hr ho => ?_, fun r hr ho => ?_, ?_, fun r hr => ?_⟩
  · rcases List.mem_append.1 hr with hr | hr
    · exact h1 r hr ho
    · rw [List.mem_singleton] at hr; subst hr; cases ho
  · rcases List.mem_append.1 hr with hr | hr
    · obtain ⟨R, hR, _⟩ := h2 r hr ho; cases hR
    · rw [List.mem_singleton] at hr; subst hr
      exact ⟨R, by simp, Hl.le_refl _⟩
  · rw [List.pairwise_append]
    refine ⟨h3, by simp, fun r _ s hs _ ho => ?_⟩
    rw [List.mem_singleton] at hs; subst hs; cases ho
  · rcases List.mem_append.1 hr with hr | hr
    · exact h4 r hr
    · rw [List.mem_singleton] at hr; subst hr; trivial
end
theorem outOut {q : Env} {a : Nat} {X N C g : E} {k : Nat} {v7 : List Nat} {t7 : List E} {t : Mem} {bs : List Int} {lg : Bool} (h0 : q.i 0 = a) (hX : -1 ≤ iev q X) (hN : iev q N = bs.length) (hC : 0 ≤ iev q C) (hg : bev q g = lg) (ho : OwB (q.h k) 5 (svb (iev q X) bs.length (iev q C)) bs)
    (hd : ∀ (p s : Nat) r u, p ≠ s → (.blk 0 [.sl X (.lit 0) N C, .bool g] 208 :: .hp k v7 t7 [] :: t : Mem)[p]? = some r → (.blk 0 [.sl X (.lit 0) N C, .bool g] 208 :: .hp k v7 t7 [] :: t : Mem)[s]? = some u → r.own = true → (r.hl q).dis (u.hl q)) :
    OutAt (uni q (.blk 0 [.sl X (.lit 0) N C, .bool g] 208 :: .hp k v7 t7 [] :: t) [0, 1]) (.pointer (some ⟨a, 0, none⟩)) bs lg := by
  have hb : (Res.blk 0 [.sl X (.lit 0) N C, .bool g] 208).hl q = outS a (iev q X) (iev q C) bs.length lg := by
    show Hl.one (q.i 0).toNat (.cells #[.slice (slP (iev q X) 0) (iev q N).toNat (iev q C).toNat, .bool (bev q g)] 208 (0, 0)) = _
    rw [h0, hN, hg, Int.toNat_natCast]; rfl
  have d01 := hd 0 1 _ _ (by decide) rfl rfl rfl
  rw [hb] at d01
  refine ⟨a, iev q X, iev q C, q.h k, rfl, hX, hC, ho, Hl.one_dis.1 d01, ?_⟩
  show hls [(Res.blk 0 [.sl X (.lit 0) N C, .bool g] 208).hl q, q.h k] = _
  rw [hb]
theorem owB_app {A B : Hl} {x l c x1 c1 : Int} {bs bs2 : List Int} (ho : OwB A 5 (.slice (slP x 0) l.toNat c.toNat) bs) (hl : l = bs.length) {m : Nat} (hm : m = bs2.length)
    (happ : ∀ xs, OwnsH A 5 1 (.slice (slP x 0) l.toNat c.toNat) l.toNat xs → OwnsH B 5 1 (.slice (slP x1 0) (l.toNat + m) c1.toNat) (l.toNat + m) (xs ++ bys bs2)) : OwB B 5 (svb x1 (bs ++ bs2).length c1) (bs ++ bs2) := by
  have hn : l.toNat = bs.length := by omega
  have h1 : OwnsH A 5 1 (.slice (slP x 0) l.toNat c.toNat) l.toNat (bys bs) := by rw [hn] at ho ⊢; exact ho
  have h2 := happ _ h1
  unfold OwB svb
  rw [Int.toNat_natCast, List.length_append, bys_append, ← hm, ← hn]
  exact h2
theorem owB_pre {A : Hl} {x l c : Int} {bs : List Int} (ho : OwB A 5 (.slice (slP x 0) l.toNat c.toNat) bs) (hl : l = bs.length) : OwnsH A 5 1 (.slice (slP x 0) l.toNat c.toNat) l.toNat (bys bs) := by
  have hn : l.toNat = bs.length := by omega
  rw [hn] at ho ⊢; exact ho
def outOp (f : FuncId) (ok : List Value → List Int → Prop) (act : List Value → List Int → List Int) : Sx.Spec where
  fn := f
  own := [.arg 0]
  rd := []
  res := []
  pre := fun xs Hs Rs => ∃ p z H bs lg, xs = [p, z] ∧ Hs = [H] ∧ OutAt H p bs lg ∧ ok [z] bs ∧ bs.length ≤ 900000
  post := fun xs Hs Rs v Hs' F => ∃ p z H bs lg H', xs = [p, z] ∧ Hs = [H] ∧ OutAt H p bs lg ∧ Hs' = [H'] ∧ OutAt H' p (act [z] bs) lg
def numAct (l : List Value) (bs : List Int) : List Int := bs ++ numB (valI l[0]?).toNat
def numOk (l : List Value) (_ : List Int) : Prop := ∃ z : Int, l = [.int .u64 z] ∧ 0 ≤ z ∧ z < 18446744073709551616
def oNumS : Sx.Spec := outOp 156 numOk numAct
def oNumNd : Nd := .and (.inv 0 [⟨24, 0, .int .i64 (.var 5)⟩, ⟨20, 0, .int .i64 (.var 1)⟩, ⟨22, 0, .int .i64 (.var 2)⟩, ⟨23, 0, .int .i64 (.var 3)⟩] [(25, some 7)]) (.havoc 0 0 8 (.and (.imp (.le (.lit 128) (.var 24)) (.ext (.alloc 30) (.and (.pre (.app 31 5 1 1 (.sl (.var 20) (.lit 0) (.var 22) (.var 23)) (.var 22) (.hp 25 [] [.var 20] []) (.cvs [.int .u8 (.bits .or .u8 (.wrap .u8 (.var 24)) (.lit 128))] 1))) (.ext (.app 31 5 1 1 (.sl (.var 20) (.lit 0) (.var 22) (.var 23)) (.var 22) (.hp 25 [] [.var 20] []) (.cvs [.int .u8 (.bits .or .u8 (.wrap .u8 (.var 24)) (.lit 128))] 1)) (.back 0 0 [⟨24, 0, .int .i64 (.shr .u64 (.var 24) (.lit 7))⟩, ⟨20, 0, .int .i64 (.var 31)⟩, ⟨22, 0, .int .i64 (.add (.var 22) (.lit 1))⟩, ⟨23, 0, .int .i64 (.var 32)⟩] [(25, some 31)]))))) (.imp (.not (.le (.lit 128) (.var 24))) (.ext (.alloc 30) (.and (.pre (.app 31 5 1 1 (.sl (.var 20) (.lit 0) (.var 22) (.var 23)) (.var 22) (.hp 25 [] [.var 20] []) (.cvs [.int .u8 (.wrap .u8 (.var 24))] 1))) (.ext (.app 31 5 1 1 (.sl (.var 20) (.lit 0) (.var 22) (.var 23)) (.var 22) (.hp 25 [] [.var 20] []) (.cvs [.int .u8 (.wrap .u8 (.var 24))] 1)) (.post [.blk 0 [.sl (.var 31) (.lit 0) (.add (.var 22) (.lit 1)) (.var 32), .bool (.bvar 6)] 208, .hp 31 [25] [.var 31, .var 20] [], .dead] (.tup []))))))))
def oNumW : Walk Tryz.prog [] 156 where
  Λ := fun p => if lp0 p then some ⟨0, [(1, TI .u64 (.var 24))], [(0, .blk 0 [.sl (.var 20) (.lit 0) (.var 22) (.var 23), .bool (.bvar 6)] 208), (1, .hp 25 [] [.var 20] [])], 30⟩ else none
  args := [TP (.var 0) (.lit 0), TI .u64 (.var 5)]
  mem := outMem
  nv := 8
  nd := oNumNd
  ok := by kernel_rfl
def oNumInv (all : List Int) (m : Nat) (_ : Nat) (q : Env) : Prop := ∃ (y : Nat) (done : List Int), q.i 24 = y ∧ done ++ numB y = all ∧ done.length ≤ m ∧ q.i 22 = done.length ∧ -1 ≤ q.i 20 ∧ 0 ≤ q.i 23 ∧ OwB (q.h 25) 5 (.slice (slP (q.i 20) 0) (q.i 22).toNat (q.i 23).toNat) done
theorem num_bound {z : Nat} (h : z < 18446744073709551616) : (numB z).length ≤ 10 := by
  refine numB_len 9 z (Nat.lt_of_lt_of_le h (by decide))
theorem oNumS_ok : oNumS.OK Tryz.prog := by
  refine Spec.of_fn (Γ := []) (fun _ h => by cases h) ?_
  rintro xs Hs Rs hl1 hl2 ⟨p, zv, H, bs, lg, rfl, rfl, ⟨a, x, c, F, rfl, h⟩, ⟨z, hz, hz0, hz1⟩, hlen⟩
  have hz : zv = .int .u64 z := by simpa using hz
  subst hz
  have e1 : Rs = [] := List.length_eq_zero_iff.1 hl2
  subst e1
  have hnb := num_bound (z := z.toNat) (by omega)
  refine ⟨oNumW, outEnv a x c bs.length lg F z [] Hl.none, oNumInv (bs ++ numB z.toNat) (bs.length + 10), fun _ q => (q.i 24).toNat, ?_, outEntry h z [] _, (fun _ h => nomatch h), ?_⟩
  · show [Value.pointer (slP (a : Int) 0), Value.int .u64 z] = _
    rw [ptr0]
  · show Nd.holds _ _ _ oNumNd
    generalize hρ : outEnv a x c bs.length lg F z [] Hl.none = ρ
    have v0 : ρ.i 0 = a := by rw [← hρ]; rfl
    have v1 : ρ.i 1 = x := by rw [← hρ]; rfl
    have v2 : ρ.i 2 = bs.length := by rw [← hρ]; rfl
    have v3 : ρ.i 3 = c := by rw [← hρ]; rfl
    have v5 : ρ.i 5 = z := by rw [← hρ]; rfl
    have b6 : ρ.b 6 = lg := by rw [← hρ]; rfl
    have w7 : ρ.h 7 = F := by rw [← hρ]; rfl
    clear hρ
    unfold oNumNd
    simp only [Nd.holds, X.pre, X.rel, X.n, Src.ok, Src.len, Src.vals, true_and, and_true, if_true, Nat.mul_one, Nat.add_zero, Nat.reduceAdd, List.length_cons, List.length_nil, bT_tt, bT_ff, bT_bvar, bT_not, bT_and, bT_or, bT_ite, bT_lt, bT_le, bT_eq, bT_beq, bT_seq, bT_hB, bT_his, bT_hby, bT_hism, bT_hks, iev_lit, iev_var, iev_add, iev_sub, iev_mul, iev_wrap, iev_ite, iev_hI, iev_hP, iev_hmlen, sev_ite, sev_slit, sev_sof, sev_svar, TV.ev, SV.ev, CV.ev, List.map_cons, List.map_nil, Res.hl]
    refine ⟨⟨z.toNat, bs, ?_, rfl, by omega, ?_, ?_, ?_, ?_⟩, fun q g ⟨y, done, e24, hall, hdl, e22, r20, r23, hO⟩ => ?_⟩
    · show ρ.i 5 = _
      rw [v5]; omega
    · show ρ.i 2 = _
      exact v2
    · show -1 ≤ ρ.i 1
      rw [v1]; exact h.rx
    · show 0 ≤ ρ.i 3
      rw [v3]; exact h.rc
    · show OwB (ρ.h 7) _ (.slice (slP (ρ.i 1) 0) (ρ.i 2).toNat (ρ.i 3).toNat) bs
      rw [w7, v1, v2, v3]; exact h.own
    have hal := congrArg List.length hall
    rw [List.length_append, List.length_append] at hal
    refine ⟨fun hge q1 g1 _ => ?_, fun hlt q1 g1 _ => ?_⟩
    · rw [g1.h 25 (by omega), g1.i 20 (by omega), g1.i 22 (by omega), g1.i 23 (by omega)]
      refine ⟨⟨⟨_, owB_pre hO e22⟩, by omega, by unfold maxLen; omega, by omega⟩, fun q2 g2 ⟨a1, a2, a3, _⟩ => ?_⟩
      rw [e24] at hge
      have hyh : numB y = ((y % 128 + 128 : Nat) : Int) :: numB (y / 128) := numB_high (by omega)
      have eb : iev q1 (.bits .or .u8 (.wrap .u8 (.var 24)) (.lit 128)) = ((y % 128 + 128 : Nat) : Int) := by
        show bitsI .or .u8 (IntKind.u8.wrap (q1.i 24)) 128 = _
        rw [g1.i 24 (by omega), e24]; exact more7
      rw [eb] at a3
      have hO2 := owB_app (bs2 := [((y % 128 + 128 : Nat) : Int)]) (m := 1) hO e22 rfl a3
      have e24' : iev q2 (.shr .u64 (.var 24) (.lit 7)) = ((y / 128 : Nat) : Int) := by
        show (q2.i 24).fdiv (2 ^ (7 : Int).toNat) = _
        rw [g2.i 24 (by omega), g1.i 24 (by omega), e24]; exact shr7
      refine ⟨⟨y / 128, done ++ [((y % 128 + 128 : Nat) : Int)], e24', ?_, ?_, ?_, a1, a2, ?_⟩, ?_⟩
      · rw [List.append_assoc, ← hall, hyh]; rfl
      · rw [List.length_append, List.length_singleton]
        rw [hyh, List.length_cons] at hal
        omega
      · show q2.i 22 + 1 = _
        rw [g2.i 22 (by omega), g1.i 22 (by omega), e22, List.length_append, List.length_singleton]; omega
      · show OwB (q2.h 31) _ (.slice (slP (q2.i 31) 0) (q2.i 22 + 1).toNat (q2.i 32).toNat) _
        rw [g2.i 22 (by omega), g1.i 22 (by omega), e22]
        have := hO2
        unfold svb at this
        rw [List.length_append, List.length_singleton] at this
        exact this
      · show (iev q2 (.shr .u64 (.var 24) (.lit 7))).toNat < (q.i 24).toNat
        rw [e24', e24]; omega
    · rw [g1.h 25 (by omega), g1.i 20 (by omega), g1.i 22 (by omega), g1.i 23 (by omega)]
      refine ⟨⟨⟨_, owB_pre hO e22⟩, by omega, by unfold maxLen; omega, by omega⟩, fun q2 g2 ⟨a1, a2, a3, _⟩ hd => ?_⟩
      rw [e24] at hlt
      have hyl : numB y = [(y : Int)] := numB_low (by omega)
      have eb : IntKind.u8.wrap (q1.i 24) = (y : Int) := by
        rw [g1.i 24 (by omega), e24, wu8]; omega
      rw [eb] at a3
      have hO2 := owB_app (bs2 := [(y : Int)]) (m := 1) hO e22 rfl a3
      rw [← hyl, hall] at hO2
      have G : Agree 8 ρ q2 := g.trans ((g1.mono (by omega)).trans (g2.mono (by omega)))
      refine ⟨[[0, 1]], [], rfl, rfl, ⟨⟨fun _ => 0, fun _ => false, fun _ => .empty, fun _ => .tuple #[], fun _ => Hl.none⟩, rfl, trivial⟩, _, _, H, bs, lg, _, rfl, rfl, ⟨a, x, c, F, rfl, h⟩, rfl, outOut (by rw [G.i 0 (by omega), v0]) a1 ?_ a2 (by rw [bev_bvar, G.b 6 (by omega), b6]) hO2 hd⟩
      show q2.i 22 + 1 = ((bs ++ numB z.toNat).length : Int)
      rw [g2.i 22 (by omega), g1.i 22 (by omega), e22, List.length_append]
      rw [hyl, List.length_singleton] at hal
      omega
end Go.Proofs.YtomdimlnggpgbaaGreatDoor
namespace Go.Proofs.YtomdimlnggpgbaaGreatDoor
open Go Go.Sx Go.Pk
def oRawS : Sx.Spec where
  fn := 157
  own := [.arg 0]
  rd := [1]
  res := []
  pre := fun xs Hs Rs => ∃ p u H R bs lg b2, xs = [p, u] ∧ Hs = [H] ∧ Rs = [R] ∧ OutAt H p bs lg ∧ RdW R u b2 ∧ bs.length ≤ 900000 ∧ b2.length ≤ 90000
  post := fun xs Hs Rs v Hs' F => ∃ p u H R bs lg b2 H', xs = [p, u] ∧ Hs = [H] ∧ Rs = [R] ∧ OutAt H p bs lg ∧ RdW R u b2 ∧ Hs' = [H'] ∧ OutAt H' p (bs ++ b2) lg
def oRawNd : Nd := .and (.pre (.app 13 5 1 1 (.sl (.var 1) (.lit 0) (.var 2) (.var 3)) (.var 2) (.hp 7 [] [.var 1] []) (.seg 12 (.var 8) (.var 9) (.var 10)))) (.ext (.app 13 5 1 1 (.sl (.var 1) (.lit 0) (.var 2) (.var 3)) (.var 2) (.hp 7 [] [.var 1] []) (.seg 12 (.var 8) (.var 9) (.var 10))) (.post [.blk 0 [.sl (.var 13) (.lit 0) (.add (.var 2) (.var 10)) (.var 14), .bool (.bvar 6)] 208, .hp 13 [7] [.var 13, .var 1] [], .ro 12 [.var 8] false] (.tup [])))
def oRawW : Walk Tryz.prog [] oRawS.fn where
  Λ := noLoops
  args := [TP (.var 0) (.lit 0), .sv (.one (.sl (.var 8) (.var 9) (.var 10) (.var 11)))]
  mem := outMem ++ [.ro 12 [.var 8] false]
  nv := 13
  nd := oRawNd
  ok := by kernel_rfl
theorem oRawS_ok : oRawS.OK Tryz.prog := by
  refine Spec.of_fn (Γ := []) (fun _ h => by cases h) ?_
  rintro xs Hs Rs hl1 hl2 ⟨p, u, H, R, bs, lg, b2, rfl, rfl, rfl, ⟨a, x, c, F, rfl, h⟩, hRd, hlen, hl2'⟩
  obtain ⟨x2, y2, c2, rfl, hy2, hR⟩ := id hRd
  refine ⟨oRawW, outEnv a x c bs.length lg F 0 [x2, y2, b2.length, c2] R, fun _ _ => True, fun _ _ => 0, ?_, outEntry2 h 0 _ R _, (fun _ h => nomatch h), ?_⟩
  · show [Value.pointer (slP (a : Int) 0), Value.slice (slP x2 y2) ((b2.length : Int)).toNat ((c2 : Int)).toNat] = _
    rw [ptr0, Int.toNat_natCast, Int.toNat_natCast]
  · show Nd.holds _ _ _ oRawNd
    generalize hρ : outEnv a x c bs.length lg F 0 [x2, y2, b2.length, c2] R = ρ
    have v0 : ρ.i 0 = a := by rw [← hρ]; rfl
    have v1 : ρ.i 1 = x := by rw [← hρ]; rfl
    have v2 : ρ.i 2 = bs.length := by rw [← hρ]; rfl
    have v3 : ρ.i 3 = c := by rw [← hρ]; rfl
    have v8 : ρ.i 8 = x2 := by rw [← hρ]; rfl
    have v9 : ρ.i 9 = y2 := by rw [← hρ]; rfl
    have v10 : ρ.i 10 = b2.length := by rw [← hρ]; rfl
    have b6 : ρ.b 6 = lg := by rw [← hρ]; rfl
    have w7 : ρ.h 7 = F := by rw [← hρ]; rfl
    have w12 : ρ.h 12 = R := by rw [← hρ]; rfl
    clear hρ
    unfold oRawNd
    simp only [Nd.holds, X.pre, X.rel, X.n, Src.ok, Src.len, Src.vals, true_and, and_true, if_true, Nat.mul_one, Nat.add_zero, Nat.reduceAdd, List.length_cons, List.length_nil, bT_tt, bT_ff, bT_bvar, bT_not, bT_and, bT_or, bT_ite, bT_lt, bT_le, bT_eq, bT_beq, bT_seq, bT_hB, bT_his, bT_hby, bT_hism, bT_hks, iev_lit, iev_var, iev_add, iev_sub, iev_mul, iev_wrap, iev_ite, iev_hI, iev_hP, iev_hmlen, sev_ite, sev_slit, sev_sof, sev_svar, TV.ev, SV.ev, CV.ev, List.map_cons, List.map_nil, Res.hl]
    rw [v1, v2, v3, v8, v9, v10, w7, w12]
    obtain ⟨hok, hseg⟩ := seg_of (R := R) (x := x2) (y := y2) (l := (b2.length : Int)) rfl hy2 hR
    have hO : OwB F 5 (.slice (slP x 0) ((bs.length : Int)).toNat c.toNat) bs := h.own
    refine ⟨⟨⟨_, owB_pre hO rfl⟩, by omega, by simpa using hok, by rw [Int.toNat_natCast, Int.toNat_natCast]; unfold maxLen; omega, by rw [Int.toNat_natCast, Int.toNat_natCast]; omega⟩, fun q2 g2 ⟨a1, a2, a3, _⟩ hd => ?_⟩
    rw [hseg] at a3
    have hO2 := owB_app (bs2 := b2) (m := ((b2.length : Int)).toNat) hO rfl (Int.toNat_natCast _) a3
    refine ⟨[[0, 1]], [], rfl, rfl, ⟨⟨fun _ => 0, fun _ => false, fun _ => .empty, fun _ => .tuple #[], fun _ => Hl.none⟩, rfl, trivial⟩, _, _, H, R, bs, lg, b2, _, rfl, rfl, rfl, ⟨a, x, c, F, rfl, h⟩, hRd, rfl, outOut (by rw [g2.i 0 (by omega), v0]) a1 ?_ a2 (by rw [bev_bvar, g2.b 6 (by omega), b6]) hO2 hd⟩
    show q2.i 2 + q2.i 10 = ((bs ++ b2).length : Int)
    rw [g2.i 2 (by omega), g2.i 10 (by omega), v2, v10, List.length_append]; omega
def textBytes (b : List Int) : List Int := numB b.length ++ b
def outText (bs : List Int) (lg : Bool) (b2 : List Int) : List Int × Bool := if 4096 < b2.length then (bs, true) else (bs ++ textBytes b2, lg)
def oTextS : Sx.Spec where
  fn := 127
  own := [.arg 0]
  rd := [1]
  res := []
  pre := fun xs Hs Rs => ∃ p u H R bs lg b2, xs = [p, u] ∧ Hs = [H] ∧ Rs = [R] ∧ OutAt H p bs lg ∧ RdW R u b2 ∧ bs.length ≤ 800000 ∧ 0 ≤ b2.length
  post := fun xs Hs Rs v Hs' F => ∃ p u H R bs lg b2 H', xs = [p, u] ∧ Hs = [H] ∧ Rs = [R] ∧ OutAt H p bs lg ∧ RdW R u b2 ∧ Hs' = [H'] ∧ OutAt H' p (outText bs lg b2).1 (outText bs lg b2).2
def oTextNd : Nd := .and (.e (.le (.lit 0) (.var 10))) (.and (.imp (.lt (.lit 4096) (.var 10)) (.and (.e (.le (.lit 0) (.var 0))) (.and (.pre (.put 13 1 (.var 0) (.lit 1) [.bool .tt])) (.ext (.put 13 1 (.var 0) (.lit 1) [.bool .tt]) (.post [.hp 13 [1] [.var 0] [], .ro 12 [.var 8] false] (.tup [])))))) (.imp (.not (.lt (.lit 4096) (.var 10))) (.and (.pre (.call 0 13 [.sv (.one (.hptr (.var 0) (.lit 0))), .sv (.one (.int .u64 (.wrap .u64 (.var 10))))] [.hp 1 [] [.var 0] []] [])) (.ext (.call 0 13 [.sv (.one (.hptr (.var 0) (.lit 0))), .sv (.one (.int .u64 (.wrap .u64 (.var 10))))] [.hp 1 [] [.var 0] []] []) (.and (.pre (.call 1 15 [.sv (.one (.hptr (.var 0) (.lit 0))), .sv (.one (.sl (.var 8) (.var 9) (.var 10) (.var 11)))] [.hp 13 [1] [.var 0] []] [.ro 12 [.var 8] false])) (.ext (.call 1 15 [.sv (.one (.hptr (.var 0) (.lit 0))), .sv (.one (.sl (.var 8) (.var 9) (.var 10) (.var 11)))] [.hp 13 [1] [.var 0] []] [.ro 12 [.var 8] false]) (.post [.hp 15 [13, 1] [.var 0] [], .ro 12 [.var 8] false] (.tup []))))))))
def oΓ : List Sx.Spec := [oNumS, oRawS, cloneBS]
theorem oΓ_ok : ∀ t ∈ oΓ, t.OK Tryz.prog := fun t ht => by
  simp only [oΓ, List.mem_cons, List.mem_nil_iff, or_false] at ht
  rcases ht with rfl | rfl | rfl
  · exact oNumS_ok
  · exact oRawS_ok
  · exact cloneBS_ok
theorem og0 : oΓ[0]? = some oNumS := rfl
theorem og1 : oΓ[1]? = some oRawS := rfl
theorem og2 : oΓ[2]? = some cloneBS := rfl
theorem or0 : oNumS.res = [] := rfl
theorem or1 : oRawS.res = [] := rfl
def oTextW : Walk Tryz.prog oΓ oTextS.fn where
  Λ := noLoops
  args := [TP (.var 0) (.lit 0), .sv (.one (.sl (.var 8) (.var 9) (.var 10) (.var 11)))]
  mem := [.hp 1 [] [.var 0] [], .ro 12 [.var 8] false]
  nv := 13
  nd := oTextNd
  ok := by kernel_rfl
theorem OutAt.setLong {H : Hl} {a : Nat} {bs : List Int} {lg : Bool} (h : OutAt H (.pointer (some ⟨a, 0, none⟩)) bs lg) : H.wr a 1 1 = true ∧ OutAt (H.put a 1 [.bool true]) (.pointer (some ⟨a, 0, none⟩)) bs true := by
  obtain ⟨a', x, c, F, e, h⟩ := h
  simp only [Value.pointer.injEq, Option.some.injEq, Addr.mk.injEq, and_true] at e
  subst e
  obtain ⟨l1, _⟩ := h.le
  have e := l1 a _ (Hl.one_self _ _)
  refine ⟨by unfold Hl.wr; rw [e]; rfl, a, x, c, F, rfl, h.rx, h.rc, h.own, h.na, ?_⟩
  rw [h.hl]
  funext k
  unfold Hl.put
  by_cases hk : k = a
  · subst hk
    rw [if_pos rfl]
    have e2 : hls [outS k x c bs.length lg, F] k = some (.cells #[svb x bs.length c, .bool lg] 208 (0, 0)) := by rw [← h.hl]; exact e
    have e3 : hls [outS k x c bs.length true, F] k = some (.cells #[svb x bs.length c, .bool true] 208 (0, 0)) := Hl.un_at_left (Hl.one_self _ _)
    rw [e2]
    exact e3.symm
  · rw [if_neg hk]
    have n1 : ∀ g : Bool, ¬ (outS a x c bs.length g).mem k := fun g hm => hk (Hl.one_mem.1 hm)
    show ((outS a x c bs.length lg).un _) k = ((outS a x c bs.length true).un _) k
    rw [Hl.un_at_right (n1 _), Hl.un_at_right (n1 _)]
theorem op_post {f : FuncId} {ok : List Value → List Int → Prop} {act : List Value → List Int → List Int} {p z v : Value} {H F : Hl} {K Rs : List Hl} {bs : List Int} {lg : Bool} (h : OutAt H p bs lg) (hp : (outOp f ok act).post [p, z] [H] Rs v K F) : ∃ H', K = [H'] ∧ OutAt H' p (act [z] bs) lg := by
  obtain ⟨p', z', Hx, bs', lg', H', hx, hH, hO, hK, hO'⟩ := hp
  have hx : p = p' ∧ z = z' := by simpa using hx
  obtain ⟨e1, e2⟩ := hx
  have hH : H = Hx := by simpa using hH
  subst e1 e2 hH
  obtain ⟨e1, e2⟩ := h.uniq hO
  subst e1 e2
  exact ⟨H', hK, hO'⟩
theorem raw_post {p u v : Value} {H R F : Hl} {K : List Hl} {bs b2 : List Int} {lg : Bool} (h : OutAt H p bs lg) (h2 : RdW R u b2) (hp : oRawS.post [p, u] [H] [R] v K F) : ∃ H', K = [H'] ∧ OutAt H' p (bs ++ b2) lg := by
  obtain ⟨p', z', Hx, Rx, bs', lg', b2', H', hx, hH, hR, hO, hB, hK, hO'⟩ := hp
  have hx : p = p' ∧ u = z' := by simpa using hx
  obtain ⟨e1, e2⟩ := hx
  have hH : H = Hx := by simpa using hH
  have hR : R = Rx := by simpa using hR
  subst e1 e2 hH hR
  obtain ⟨e1, e2⟩ := h.uniq hO
  subst e1 e2
  have e := h2.uniq hB
  subst e
  exact ⟨H', hK, hO'⟩
theorem oTextS_ok : oTextS.OK Tryz.prog := by
  refine Spec.of_fn (Γ := oΓ) oΓ_ok ?_
  rintro xs Hs Rs hl1 hl2 ⟨p, u, H, R, bs, lg, b2, rfl, rfl, rfl, h, hRd, hlen, hl2'⟩
  obtain ⟨a, _, _, rfl, _⟩ := h.whole
  obtain ⟨x2, y2, c2, rfl, hy2, hR⟩ := id hRd
  refine ⟨oTextW, envI [(a : Int), 0, 0, 0, 0, 0, 0, 0, x2, y2, b2.length, c2] false [Hl.none, H, Hl.none, Hl.none, Hl.none, Hl.none, Hl.none, Hl.none, Hl.none, Hl.none, Hl.none, Hl.none, R], fun _ _ => True, fun _ _ => 0, ?_, ⟨?_, ?_, ?_, ?_⟩, (fun _ h => nomatch h), ?_⟩
  · show [Value.pointer (slP (a : Int) 0), Value.slice (slP x2 y2) ((b2.length : Int)).toNat ((c2 : Int)).toNat] = _
    rw [ptr0, Int.toNat_natCast, Int.toNat_natCast]
  · intro r hr ho; simp [oTextW] at hr
    rcases hr with rfl | rfl
    · exact ⟨H, by simp, Hl.le_refl _⟩
    · cases ho
  · intro r hr ho; simp [oTextW] at hr
    rcases hr with rfl | rfl
    · cases ho
    · exact ⟨R, by simp, Hl.le_refl _⟩
  · simp [oTextW, Res.own]
  · intro r hr; simp [oTextW] at hr; rcases hr with rfl | rfl <;> trivial
  · show Nd.holds _ _ _ oTextNd
    generalize hρ : envI [(a : Int), 0, 0, 0, 0, 0, 0, 0, x2, y2, b2.length, c2] false [Hl.none, H, Hl.none, Hl.none, Hl.none, Hl.none, Hl.none, Hl.none, Hl.none, Hl.none, Hl.none, Hl.none, R] = ρ
    have v0 : ρ.i 0 = a := by rw [← hρ]; rfl
    have v8 : ρ.i 8 = x2 := by rw [← hρ]; rfl
    have v9 : ρ.i 9 = y2 := by rw [← hρ]; rfl
    have v10 : ρ.i 10 = b2.length := by rw [← hρ]; rfl
    have v11 : ρ.i 11 = c2 := by rw [← hρ]; rfl
    have w1 : ρ.h 1 = H := by rw [← hρ]; rfl
    have w12 : ρ.h 12 = R := by rw [← hρ]; rfl
    clear hρ
    have out : ∀ (q : Env) (k : Nat) (vs : List Nat) (t : Mem) (r : List Int × Bool), outText bs lg b2 = r → OutAt (q.h k) (.pointer (some ⟨a, 0, none⟩)) r.1 r.2 → postOf oTextS [.pointer (some ⟨a, 0, none⟩), .slice (slP x2 y2) b2.length c2] [H] [R] q (.hp k vs [.var 0] [] :: t) (.tup []) := by
      intro q k vs t r hr ho _
      refine ⟨[[0]], [], rfl, rfl, ⟨⟨fun _ => 0, fun _ => false, fun _ => .empty, fun _ => .tuple #[], fun _ => Hl.none⟩, rfl, trivial⟩, _, _, H, R, bs, lg, b2, _, rfl, rfl, rfl, h, hRd, rfl, ?_⟩
      rw [hr]
      show OutAt (hls [q.h k]) _ _ _
      rw [hls_one]; exact ho
    have tn1 : Int.toNat 1 = 1 := rfl
    unfold oTextNd
    simp only [Nd.holds, X.pre, X.rel, X.n, Src.ok, Src.len, Src.vals, true_and, and_true, if_true, Nat.mul_one, Nat.add_zero, Nat.reduceAdd, List.length_cons, List.length_nil, bT_tt, bT_ff, bT_bvar, bT_not, bT_and, bT_or, bT_ite, bT_lt, bT_le, bT_eq, bT_beq, bT_seq, bT_hB, bT_his, bT_hby, bT_hism, bT_hks, iev_lit, iev_var, iev_add, iev_sub, iev_mul, iev_wrap, iev_ite, iev_hI, iev_hP, iev_hmlen, sev_ite, sev_slit, sev_sof, sev_svar, TV.ev, SV.ev, CV.ev, List.map_cons, List.map_nil, Res.hl, cpTV, Cp.sv, Ck.cv, cpSVs, Cp.len, Ck.len, newHs_zero, newHs_one, roots_ne, og0, og1, or0, or1, tn1]
    rw [v10, v0, w1, Int.toNat_natCast]
    obtain ⟨hw, hset⟩ := h.setLong
    refine ⟨by omega, fun hgt => ⟨by omega, ⟨by omega, by omega, hw⟩, fun q g h13 => ?_⟩, fun hle => ?_⟩
    · refine out q 13 _ _ (bs, true) (by unfold outText; rw [if_pos (by omega)]) ?_
      rw [h13]; exact hset
    · have hu : IntKind.u64.wrap ((b2.length : Nat) : Int) = b2.length := wu64 (by omega) (by omega)
      rw [hu, ptr0]
      refine ⟨⟨_, _, H, bs, lg, rfl, rfl, h, ⟨_, rfl, by omega, by omega⟩, by omega⟩, fun q g ⟨F1, hp, _, _⟩ => ?_⟩
      obtain ⟨H1, hK1, hO1⟩ := op_post h hp
      have hK1 : q.h 13 = H1 := by simpa using hK1
      rw [← hK1] at hO1
      have eN : numAct [Value.int .u64 ((b2.length : Nat) : Int)] bs = bs ++ numB b2.length := by
        unfold numAct
        show bs ++ numB (((b2.length : Nat) : Int)).toNat = _
        rw [Int.toNat_natCast]
      rw [eN] at hO1
      have hnb := num_bound (z := b2.length) (by omega)
      rw [g.i 0 (by omega), v0, g.i 8 (by omega), v8, g.i 9 (by omega), v9, g.i 10 (by omega), v10, g.i 11 (by omega), v11, g.h 12 (by omega), w12, ptr0, Int.toNat_natCast, Int.toNat_natCast]
      refine ⟨⟨_, _, _, R, _, lg, b2, rfl, rfl, rfl, hO1, hRd, by rw [List.length_append]; omega, by omega⟩, fun q2 g2 ⟨F2, hp2, _, _⟩ => ?_⟩
      obtain ⟨H2, hK2, hO2⟩ := raw_post hO1 hRd hp2
      have hK2 : q2.h 15 = H2 := by simpa using hK2
      refine out q2 15 _ _ (bs ++ textBytes b2, lg) (by unfold outText; rw [if_neg (by omega)]) ?_
      rw [hK2]
      unfold textBytes
      rw [← List.append_assoc]; exact hO2
end Go.Proofs.YtomdimlnggpgbaaGreatDoor
namespace Go.Proofs.YtomdimlnggpgbaaGreatDoor
open Go Go.Sx Go.Pk
def endR (bs : List Int) (lg : Bool) : List Int × Int := if lg = true ∨ 16384 < bs.length then ([], 3) else (bs, 0)
def oEndS : Sx.Spec where
  fn := 128
  own := []
  rd := [0]
  res := [.one .sl, .one (.int .i64)]
  pre := fun xs Hs Rs => ∃ p R bs lg, xs = [p] ∧ Rs = [R] ∧ OutAt R p bs lg ∧ bs.length ≤ 1000000
  post := fun xs Hs Rs v Hs' F => ∃ p R bs lg u, xs = [p] ∧ Rs = [R] ∧ OutAt R p bs lg ∧ v = .tuple #[u, .int .i64 (endR bs lg).2] ∧ OwB F 5 u (endR bs lg).1
def oEndNd : Nd := .and (.e (.le (.lit 0) (.var 0))) (.and (.e (.his 2 (.var 0) (.lit 1) 0 .bool)) (.and (.imp (.not (.hB 2 (.var 0) (.lit 1) 0)) (.and (.e (.his 2 (.var 0) (.lit 0) 0 .slice)) (.and (.e (.le (.lit 0) (.hP 2 (.var 0) (.lit 0) 0 2))) (.and (.imp (.lt (.lit 16384) (.hP 2 (.var 0) (.lit 0) 0 2)) (.post [.ro 1 [.hP 2 (.var 0) (.lit 0) 0 0] false, .ro 2 [.var 0] false] (.tup [.one (.sl (.lit (-1)) (.lit 0) (.lit 0) (.lit 0)), .one (.int .i64 (.lit 3))]))) (.imp (.not (.lt (.lit 16384) (.hP 2 (.var 0) (.lit 0) 0 2))) (.and (.pre (.call 2 3 [.sv (.one (.sl (.hP 2 (.var 0) (.lit 0) 0 0) (.hP 2 (.var 0) (.lit 0) 0 1) (.hP 2 (.var 0) (.lit 0) 0 2) (.hP 2 (.var 0) (.lit 0) 0 3)))] [] [.ro 1 [.hP 2 (.var 0) (.lit 0) 0 0] false])) (.ext (.call 2 3 [.sv (.one (.sl (.hP 2 (.var 0) (.lit 0) 0 0) (.hP 2 (.var 0) (.lit 0) 0 1) (.hP 2 (.var 0) (.lit 0) 0 2) (.hP 2 (.var 0) (.lit 0) 0 3)))] [] [.ro 1 [.hP 2 (.var 0) (.lit 0) 0 0] false]) (.post [.ro 1 [.hP 2 (.var 0) (.lit 0) 0 0] false, .ro 2 [.var 0] false, .hp 3 [] [.var 3] []] (.tup [.one (.sl (.var 3) (.var 4) (.var 5) (.var 6)), .one (.int .i64 (.lit 0))]))))))))) (.imp (.hB 2 (.var 0) (.lit 1) 0) (.post [.ro 1 [.hP 2 (.var 0) (.lit 0) 0 0] false, .ro 2 [.var 0] false] (.tup [.one (.sl (.lit (-1)) (.lit 0) (.lit 0) (.lit 0)), .one (.int .i64 (.lit 3))])))))
def oEndW : Walk Tryz.prog oΓ oEndS.fn where
  Λ := noLoops
  args := [TP (.var 0) (.lit 0)]
  mem := [.ro 1 [.hP 2 (.var 0) (.lit 0) 0 0] false, .ro 2 [.var 0] false]
  nv := 3
  nd := oEndNd
  ok := by kernel_rfl
theorem or2 : cloneBS.res = [.one .sl] := rfl
theorem sl3 {x y : Int} (hx : -1 ≤ x) (n c : Nat) : valP (some (.slice (slP x y) n c)) 3 = c := by
  rcases Int.lt_or_le x 0 with h | h
  · obtain rfl : x = -1 := by omega
    rfl
  · rw [slP_pos h]; rfl
theorem sl1z {x : Int} (hx : -1 ≤ x) (n c : Nat) : valP (some (.slice (slP x 0) n c)) 1 = 0 := by
  rcases Int.lt_or_le x 0 with h | h
  · obtain rfl : x = -1 := by omega
    rfl
  · rw [slP_pos h]; rfl
theorem oEndS_ok : oEndS.OK Tryz.prog := by
  refine Spec.of_fn (Γ := oΓ) oΓ_ok ?_
  rintro xs Hs Rs hl1 hl2 ⟨p, R, bs, lg, rfl, rfl, h, hlen⟩
  have e0 : Hs = [] := List.length_eq_zero_iff.1 hl1
  subst e0
  obtain ⟨a, x, c, rfl, hx, hc, hc0, hc1, hR⟩ := h.whole
  unfold svb at hc0 hR
  rw [Int.toNat_natCast] at hc0 hR
  refine ⟨oEndW, envI [(a : Int)] false [Hl.none, R, R], fun _ _ => True, fun _ _ => 0, ?_, ⟨?_, ?_, ?_, ?_⟩, (fun _ h => nomatch h), ?_⟩
  · show [Value.pointer (slP (a : Int) 0)] = _
    rw [ptr0]
  · intro r hr ho; simp [oEndW] at hr; rcases hr with rfl | rfl <;> cases ho
  · intro r hr ho; simp [oEndW] at hr
    rcases hr with rfl | rfl <;> exact ⟨R, by simp, Hl.le_refl _⟩
  · simp [oEndW, Res.own]
  · intro r hr; simp [oEndW] at hr; rcases hr with rfl | rfl <;> trivial
  · show Nd.holds _ _ _ oEndNd
    generalize hρ : envI [(a : Int)] false [Hl.none, R, R] = ρ
    have v0 : ρ.i 0 = a := by rw [← hρ]; rfl
    have w1 : ρ.h 1 = R := by rw [← hρ]; rfl
    have w2 : ρ.h 2 = R := by rw [← hρ]; rfl
    clear hρ
    have fail : ∀ (mem : Mem), lg = true ∨ 16384 < bs.length → postOf oEndS [.pointer (some ⟨a, 0, none⟩)] [] [R] ρ mem (.tup [.one (.sl (.lit (-1)) (.lit 0) (.lit 0) (.lit 0)), .one (.int .i64 (.lit 3))]) := by
      intro mem hf _
      have hs : endR bs lg = ([], 3) := by unfold endR; rw [if_pos hf]
      refine ⟨[], [], rfl, rfl, ⟨⟨fun k => if k = 0 then -1 else if k = 4 then 3 else 0, fun _ => false, fun _ => .empty, fun _ => .tuple #[], fun _ => Hl.none⟩, rfl, ⟨Int.le_refl _, Int.le_refl _, Int.le_refl _, Int.le_refl _⟩, trivial, trivial⟩, _, R, bs, lg, .slice none 0 0, rfl, rfl, h, ?_, ?_⟩
      · rw [hs]; rfl
      · rw [hs]; exact ownB_nil _ _
    have tn0 : Int.toNat 0 = 0 := rfl
    have tn1 : Int.toNat 1 = 1 := rfl
    unfold oEndNd
    simp only [Nd.holds, X.pre, X.rel, X.n, Src.ok, Src.len, Src.vals, true_and, and_true, if_true, Nat.mul_one, Nat.add_zero, Nat.reduceAdd, List.length_cons, List.length_nil, bT_tt, bT_ff, bT_bvar, bT_not, bT_and, bT_or, bT_ite, bT_lt, bT_le, bT_eq, bT_beq, bT_seq, bT_hB, bT_his, bT_hby, bT_hism, bT_hks, iev_lit, iev_var, iev_add, iev_sub, iev_mul, iev_wrap, iev_ite, iev_hI, iev_hP, iev_hmlen, sev_ite, sev_slit, sev_sof, sev_svar, TV.ev, SV.ev, CV.ev, List.map_cons, List.map_nil, Res.hl, cpTV, Cp.sv, Ck.cv, cpSVs, Cp.len, Ck.len, newHs_zero, newHs_one, roots_ne, og2, or2, ic1, tn0, tn1]
    rw [v0, w2, w1, Int.toNat_natCast, hc0, hc1, sl2 hx, sl0 hx, sl1z hx, sl3 hx]
    refine ⟨by omega, rfl, fun hb => ⟨rfl, by omega, fun hlt => fail _ (Or.inr (by omega)), fun hge => ?_⟩, fun hb => fail _ (Or.inl hb)⟩
    have hb : lg = false := Bool.eq_false_iff.2 hb
    rw [Int.toNat_natCast, Int.toNat_natCast]
    have hW := hR.w
    refine ⟨⟨_, bs, R, rfl, rfl, hW, hlen⟩, fun q g ⟨F1, hp, hF, hnm⟩ _ => ?_⟩
    have hO := clone_post hW hp
    rw [← hF trivial] at hO
    have hs : endR bs lg = (bs, 0) := by
      unfold endR
      have : ¬ (lg = true ∨ 16384 < bs.length) := by
        rintro (e | e)
        · rw [hb] at e; cases e
        · omega
      rw [if_neg this]
    refine ⟨[], [2], rfl, rfl, ⟨⟨fun k => if k = 4 then 0 else q.i (3 + k), fun _ => false, fun _ => .empty, fun _ => .tuple #[], fun _ => Hl.none⟩, rfl, hnm.1, trivial, trivial⟩, _, R, bs, lg, _, rfl, rfl, h, by rw [hs]; rfl, ?_⟩
    rw [hs]
    show OwB (hls [q.h 3]) _ _ _
    rw [hls_one]; exact hO
def rnumS : Sx.Spec where
  fn := 85
  own := []
  rd := []
  res := [.one .sl]
  pre := fun xs Hs Rs => ∃ z : Int, xs = [.int .u64 z] ∧ 0 ≤ z ∧ z < 18446744073709551616
  post := fun xs Hs Rs v Hs' F => ∃ z : Int, xs = [.int .u64 z] ∧ OwB F 5 v (numB z.toNat)
def rnumNd : Nd := .and (.inv 0 [⟨24, 0, .int .i64 (.var 0)⟩, ⟨20, 0, .int .i64 (.lit (-1))⟩, ⟨22, 0, .int .i64 (.lit 0)⟩, ⟨23, 0, .int .i64 (.lit 0)⟩] [(25, none)]) (.havoc 0 0 1 (.and (.imp (.lt (.lit 0) (.wrap .u64 (.quo (.var 24) (.lit 128)))) (.ext (.alloc 30) (.and (.pre (.app 31 5 1 1 (.sl (.var 20) (.lit 0) (.var 22) (.var 23)) (.var 22) (.hp 25 [] [.var 20] []) (.cvs [.int .u8 (.wrap .u8 (.wrap .u64 (.add (.rem (.var 24) (.lit 128)) (.lit 128))))] 1))) (.ext (.app 31 5 1 1 (.sl (.var 20) (.lit 0) (.var 22) (.var 23)) (.var 22) (.hp 25 [] [.var 20] []) (.cvs [.int .u8 (.wrap .u8 (.wrap .u64 (.add (.rem (.var 24) (.lit 128)) (.lit 128))))] 1)) (.back 0 0 [⟨24, 0, .int .i64 (.wrap .u64 (.quo (.var 24) (.lit 128)))⟩, ⟨20, 0, .int .i64 (.var 31)⟩, ⟨22, 0, .int .i64 (.add (.var 22) (.lit 1))⟩, ⟨23, 0, .int .i64 (.var 32)⟩] [(25, some 31)]))))) (.imp (.not (.lt (.lit 0) (.wrap .u64 (.quo (.var 24) (.lit 128))))) (.ext (.alloc 30) (.and (.pre (.app 31 5 1 1 (.sl (.var 20) (.lit 0) (.var 22) (.var 23)) (.var 22) (.hp 25 [] [.var 20] []) (.cvs [.int .u8 (.wrap .u8 (.var 24))] 1))) (.ext (.app 31 5 1 1 (.sl (.var 20) (.lit 0) (.var 22) (.var 23)) (.var 22) (.hp 25 [] [.var 20] []) (.cvs [.int .u8 (.wrap .u8 (.var 24))] 1)) (.post [.hp 31 [25] [.var 31, .var 20] [], .dead] (.sv (.one (.sl (.var 31) (.lit 0) (.add (.var 22) (.lit 1)) (.var 32)))))))))))
def rnumW : Walk Tryz.prog [] rnumS.fn where
  Λ := fun p => if lp0 p then some ⟨0, [(3, .sv (.one (.sl (.var 20) (.lit 0) (.var 22) (.var 23)))), (0, TI .u64 (.var 24))], [(0, .hp 25 [] [.var 20] [])], 30⟩ else none
  args := [TI .u64 (.var 0)]
  mem := []
  nv := 1
  nd := rnumNd
  ok := by kernel_rfl
theorem quo128 (y : Nat) (h : y < 18446744073709551616) : IntKind.u64.wrap ((y : Int).tdiv 128) = ((y / 128 : Nat) : Int) := by
  rw [Int.tdiv_eq_ediv_of_nonneg (by omega), wu64 (by omega) (by omega)]; omega
theorem rem128 (y : Nat) : IntKind.u8.wrap (IntKind.u64.wrap ((y : Int).tmod 128 + 128)) = ((y % 128 + 128 : Nat) : Int) := by
  rw [Int.tmod_eq_emod_of_nonneg (by omega), wu64 (by omega) (by omega), wu8]; omega
def rnumInv (all : List Int) (k : Nat) (q : Env) : Prop := oNumInv all 10 k q ∧ q.i 24 < 18446744073709551616
theorem rnumS_ok : rnumS.OK Tryz.prog := by
  refine Spec.of_fn (Γ := []) (fun _ h => by cases h) ?_
  rintro xs Hs Rs hl1 hl2 ⟨z, rfl, hz0, hz1⟩
  have e0 : Hs = [] := List.length_eq_zero_iff.1 hl1
  have e1 : Rs = [] := List.length_eq_zero_iff.1 hl2
  subst e0 e1
  have hnb := num_bound (z := z.toNat) (by omega)
  refine ⟨rnumW, envI [z] false [], rnumInv (numB z.toNat), fun _ q => (q.i 24).toNat, rfl, ⟨fun r hr => (by cases hr), fun r hr => (by cases hr), List.Pairwise.nil, fun r hr => (by cases hr)⟩, (fun _ h => nomatch h), ?_⟩
  show Nd.holds _ _ _ rnumNd
  generalize hρ : envI [z] false [] = ρ
  have v0 : ρ.i 0 = z := by rw [← hρ]; rfl
  clear hρ
  unfold rnumNd
  simp only [Nd.holds, X.pre, X.rel, X.n, Src.ok, Src.len, Src.vals, true_and, and_true, if_true, Nat.mul_one, Nat.add_zero, Nat.reduceAdd, List.length_cons, List.length_nil, bT_tt, bT_ff, bT_bvar, bT_not, bT_and, bT_or, bT_ite, bT_lt, bT_le, bT_eq, bT_beq, bT_seq, bT_hB, bT_his, bT_hby, bT_hism, bT_hks, iev_lit, iev_var, iev_add, iev_sub, iev_mul, iev_wrap, iev_ite, iev_hI, iev_hP, iev_hmlen, sev_ite, sev_slit, sev_sof, sev_svar, TV.ev, SV.ev, CV.ev, List.map_cons, List.map_nil, Res.hl, iev_quo, iev_rem]
  refine ⟨⟨⟨z.toNat, [], ?_, rfl, Nat.zero_le _, rfl, Int.le_refl _, Int.le_refl _, ⟨rfl, Or.inl ⟨rfl, rfl⟩⟩⟩, ?_⟩, fun q g ⟨⟨y, done, e24, hall, hdl, e22, r20, r23, hO⟩, hlt24⟩ => ?_⟩
  · show ρ.i 0 = _
    rw [v0]; omega
  · show ρ.i 0 < _
    rw [v0]; exact hz1
  have hal := congrArg List.length hall
  rw [List.length_append] at hal
  have hy64 : y < 18446744073709551616 := by omega
  rw [e24, quo128 y hy64]
  refine ⟨fun hge q1 g1 _ => ?_, fun hlt q1 g1 _ => ?_⟩
  · rw [g1.h 25 (by omega), g1.i 20 (by omega), g1.i 22 (by omega), g1.i 23 (by omega), g1.i 24 (by omega), e24, rem128]
    refine ⟨⟨⟨_, owB_pre hO e22⟩, by omega, by unfold maxLen; omega, by omega⟩, fun q2 g2 ⟨a1, a2, a3, _⟩ => ?_⟩
    have hyh : numB y = ((y % 128 + 128 : Nat) : Int) :: numB (y / 128) := numB_high (by omega)
    have hO2 := owB_app (bs2 := [((y % 128 + 128 : Nat) : Int)]) (m := 1) hO e22 rfl a3
    have e24' : IntKind.u64.wrap ((q2.i 24).tdiv 128) = ((y / 128 : Nat) : Int) := by
      rw [g2.i 24 (by omega), g1.i 24 (by omega), e24]; exact quo128 y hy64
    refine ⟨⟨⟨y / 128, done ++ [((y % 128 + 128 : Nat) : Int)], e24', ?_, ?_, ?_, a1, a2, ?_⟩, ?_⟩, ?_⟩
    · rw [List.append_assoc, ← hall, hyh]; rfl
    · rw [List.length_append, List.length_singleton]
      rw [hyh, List.length_cons] at hal
      omega
    · show q2.i 22 + 1 = _
      rw [g2.i 22 (by omega), g1.i 22 (by omega), e22, List.length_append, List.length_singleton]; omega
    · show OwB (q2.h 31) _ (.slice (slP (q2.i 31) 0) (q2.i 22 + 1).toNat (q2.i 32).toNat) _
      rw [g2.i 22 (by omega), g1.i 22 (by omega), e22]
      have := hO2
      unfold svb at this
      rw [List.length_append, List.length_singleton] at this
      exact this
    · show IntKind.u64.wrap ((q2.i 24).tdiv 128) < _
      rw [e24']; omega
    · show (IntKind.u64.wrap ((q2.i 24).tdiv 128)).toNat < _
      rw [e24']; omega
  · rw [g1.h 25 (by omega), g1.i 20 (by omega), g1.i 22 (by omega), g1.i 23 (by omega)]
    refine ⟨⟨⟨_, owB_pre hO e22⟩, by omega, by unfold maxLen; omega, by omega⟩, fun q2 g2 ⟨a1, a2, a3, _⟩ hd => ?_⟩
    have hyl : numB y = [(y : Int)] := numB_low (by omega)
    have eb : IntKind.u8.wrap (q1.i 24) = (y : Int) := by
      rw [g1.i 24 (by omega), e24, wu8]; omega
    rw [eb] at a3
    have hO2 := owB_app (bs2 := [(y : Int)]) (m := 1) hO e22 rfl a3
    rw [← hyl, hall] at hO2
    have e22' : q2.i 22 + 1 = ((numB z.toNat).length : Int) := by
      rw [g2.i 22 (by omega), g1.i 22 (by omega), e22]
      rw [hyl, List.length_singleton] at hal
      omega
    refine ⟨[], [0], rfl, rfl, ⟨⟨fun k => [q2.i 31, 0, q2.i 22 + 1, q2.i 32].getD k 0, fun _ => false, fun _ => .empty, fun _ => .tuple #[], fun _ => Hl.none⟩, rfl, ⟨a1, Int.le_refl _, by show 0 ≤ q2.i 22 + 1; omega, a2⟩, trivial⟩, z, rfl, ?_⟩
    show OwB (hls [q2.h 31]) _ (.slice (slP (q2.i 31) 0) (q2.i 22 + 1).toNat (q2.i 32).toNat) _
    rw [hls_one, e22']
    exact hO2
end Go.Proofs.YtomdimlnggpgbaaGreatDoor
namespace Go.Proofs.YtomdimlnggpgbaaGreatDoor
open Go Go.Sx Go.Pk
open Go.Proofs.YtomdimlnggpgbaaGreatDoor.D hiding envI noLoops numS
def cloneSS : Sx.Spec where
  fn := 55
  own := []
  rd := [0]
  res := [.one .sl]
  pre := fun xs Hs Rs => ∃ u bs R, xs = [u] ∧ Rs = [R] ∧ RdW R u bs ∧ bs.length ≤ 1000000
  post := fun xs Hs Rs v Hs' F => ∃ u bs R, xs = [u] ∧ Rs = [R] ∧ RdW R u bs ∧ OwB F 5 v bs
def cloneSNd : Nd := .and (.imp (.eq (.var 0) (.lit (-1))) (.post [.ro 4 [.var 0] false] (.sv (.one (.sl (.lit (-1)) (.lit 0) (.lit 0) (.lit 0)))))) (.imp (.not (.eq (.var 0) (.lit (-1)))) (.ext (.alloc 5) (.and (.pre (.app 6 5 1 1 (.sl (.var 5) (.lit 0) (.lit 0) (.lit 0)) (.lit 0) (.blk 5 [] 5) (.seg 4 (.var 0) (.var 1) (.var 2)))) (.ext (.app 6 5 1 1 (.sl (.var 5) (.lit 0) (.lit 0) (.lit 0)) (.lit 0) (.blk 5 [] 5) (.seg 4 (.var 0) (.var 1) (.var 2))) (.post [.ro 4 [.var 0] false, .hp 6 [] [.var 6, .var 5] []] (.sv (.one (.sl (.var 6) (.lit 0) (.var 2) (.var 7)))))))))
def cloneSW : Walk Tryz.prog [] cloneSS.fn where
  Λ := noLoops
  args := [.sv (.one (.sl (.var 0) (.var 1) (.var 2) (.var 3)))]
  mem := [.ro 4 [.var 0] false]
  nv := 5
  nd := cloneSNd
  ok := by kernel_rfl
theorem cloneSS_ok : cloneSS.OK Tryz.prog := by
  refine Spec.of_fn (Γ := []) (fun _ h => by cases h) ?_
  rintro xs Hs Rs hl1 hl2 ⟨u, bs, R, rfl, rfl, hRd, hlen⟩
  have e0 : Hs = [] := List.length_eq_zero_iff.1 hl1
  subst e0
  obtain ⟨x, y, c, rfl, hy, hR⟩ := id hRd
  refine ⟨cloneSW, envI [x, y, bs.length, c] false [Hl.none, Hl.none, Hl.none, Hl.none, R], fun _ _ => True, fun _ _ => 0, ?_, ⟨?_, ?_, ?_, ?_⟩, (fun _ h => nomatch h), ?_⟩
  · show [Value.slice (slP x y) ((bs.length : Int)).toNat ((c : Int)).toNat] = _
    rw [Int.toNat_natCast, Int.toNat_natCast]
  · intro r hr ho; simp [cloneSW] at hr; subst hr; cases ho
  · intro r hr ho; simp [cloneSW] at hr; subst hr; exact ⟨R, by simp, Hl.le_refl _⟩
  · simp [cloneSW]
  · intro r hr; simp [cloneSW] at hr; subst hr; trivial
  · show Nd.holds _ _ _ cloneSNd
    generalize hρ : envI [x, y, bs.length, c] false [Hl.none, Hl.none, Hl.none, Hl.none, R] = ρ
    have v0 : ρ.i 0 = x := by rw [← hρ]; rfl
    have v1 : ρ.i 1 = y := by rw [← hρ]; rfl
    have v2 : ρ.i 2 = bs.length := by rw [← hρ]; rfl
    have w4 : ρ.h 4 = R := by rw [← hρ]; rfl
    clear hρ
    unfold cloneSNd
    simp only [Nd.holds, X.pre, X.rel, X.n, Src.ok, Src.len, Src.vals, true_and, and_true, if_true, Nat.mul_one, Nat.add_zero, Nat.reduceAdd, List.length_cons, List.length_nil, bT_tt, bT_ff, bT_bvar, bT_not, bT_and, bT_or, bT_ite, bT_lt, bT_le, bT_eq, bT_beq, bT_seq, bT_hB, bT_his, bT_hby, bT_hism, bT_hks, iev_lit, iev_var, iev_add, iev_sub, iev_mul, iev_wrap, iev_ite, iev_hI, iev_hP, iev_hmlen, sev_ite, sev_slit, sev_sof, sev_svar, TV.ev, SV.ev, CV.ev, List.map_cons, List.map_nil, Res.hl]
    refine ⟨fun hx _ => ?_, fun hx q1 g1 p5 => ?_⟩
    · have hnil : bs = [] := by
        rcases hR with h | ⟨h, _⟩
        · exact h
        · omega
      refine ⟨[], [], rfl, rfl, ⟨⟨fun k => if k = 0 then -1 else 0, fun _ => false, fun _ => .empty, fun _ => .tuple #[], fun _ => Hl.none⟩, rfl, ⟨Int.le_refl _, Int.le_refl _, Int.le_refl _, Int.le_refl _⟩, trivial⟩, _, bs, R, rfl, rfl, hRd, ?_⟩
      rw [hnil]
      exact ⟨rfl, Or.inl ⟨rfl, rfl⟩⟩
    · obtain ⟨hok, hseg⟩ := seg_of (R := R) (x := x) (y := y) (l := (bs.length : Int)) rfl hy hR
      have ho0 := own0 (Hl.one (q1.i 5).toNat (.cells #[] 5 (0, 0))) p5 rfl
      rw [g1.i 0 (by omega), g1.i 1 (by omega), g1.i 2 (by omega), g1.h 4 (by omega), v0, v1, v2, w4]
      refine ⟨⟨⟨_, ho0⟩, Int.le_refl _, by simpa using hok, by rw [Int.toNat_natCast]; unfold maxLen; simp; omega, by rw [Int.toNat_natCast]; simp; omega⟩, fun q2 g2 ⟨a1, a2, a3, _⟩ => fun _ => ?_⟩
      have hx2 := a3 _ ho0
      rw [hseg, List.nil_append] at hx2
      refine ⟨[], [1], rfl, rfl, ⟨⟨fun k => [q2.i 6, 0, q2.i 2, q2.i 7].getD k 0, fun _ => false, fun _ => .empty, fun _ => .tuple #[], fun _ => Hl.none⟩, rfl, ⟨a1, Int.le_refl _, ?_, a2⟩, trivial⟩, _, bs, R, rfl, rfl, hRd, ?_⟩
      · show 0 ≤ q2.i 2
        rw [g2.i 2 (by omega), g1.i 2 (by omega), v2]; omega
      · show OwB (hls [q2.h 6]) _ (.slice (slP (q2.i 6) 0) (q2.i 2).toNat (q2.i 7).toNat) bs
        rw [hls_one, g2.i 2 (by omega), g1.i 2 (by omega), v2]
        unfold OwB
        rw [Int.toNat_natCast]
        simpa using hx2
def sbigS : Sx.Spec where
  fn := 79
  own := []
  rd := [0]
  res := [.one (.int .u64)]
  pre := fun xs Hs Rs => ∃ u bs R, xs = [u] ∧ Rs = [R] ∧ RdW R u bs ∧ bs.length ≤ 1000
  post := fun xs Hs Rs v Hs' F => ∃ u bs R, xs = [u] ∧ Rs = [R] ∧ RdW R u bs ∧ v = .int .u64 (bigI bs)
def sbigNd : Nd := .and (.e (.le (.lit 0) (.var 2))) (.and (.inv 0 [⟨10, 0, .int .i64 (.lit 0)⟩, ⟨11, 0, .int .i64 (.lit 0)⟩] []) (.havoc 0 0 5 (.and (.imp (.lt (.var 11) (.var 2)) (.and (.e (.le (.lit 0) (.var 0))) (.and (.e (.le (.lit 0) (.var 1))) (.and (.e (.le (.lit 0) (.var 11))) (.and (.e (.his 4 (.var 0) (.add (.var 1) (.var 11)) 0 (.int .u8))) (.back 0 0 [⟨10, 0, .int .i64 (.bits .or .u64 (.shl .u64 (.var 10) (.lit 8)) (.wrap .u64 (.hI 4 (.var 0) (.add (.var 1) (.var 11)) 0)))⟩, ⟨11, 0, .int .i64 (.wrap .i64 (.add (.var 11) (.lit 1)))⟩] [])))))) (.imp (.not (.lt (.var 11) (.var 2))) (.post [.ro 4 [.var 0] false] (.sv (.one (.int .u64 (.var 10)))))))))
def sbigW : Walk Tryz.prog [] sbigS.fn where
  Λ := fun p => if lp p then some ⟨0, [(3, TI .u64 (.var 10)), (8, TI .i64 (.var 11))], [], 12⟩ else none
  args := [.sv (.one (.sl (.var 0) (.var 1) (.var 2) (.var 3)))]
  mem := [.ro 4 [.var 0] false]
  nv := 5
  nd := sbigNd
  ok := by kernel_rfl
theorem sbigS_ok : sbigS.OK Tryz.prog := by
  refine Spec.of_fn (Γ := []) (fun _ h => by cases h) ?_
  rintro xs Hs Rs hl1 hl2 ⟨u, bs, R, rfl, rfl, ⟨x, y, cp, rfl, hy, hR⟩, hlen⟩
  have e0 : Hs = [] := List.length_eq_zero_iff.1 hl1
  subst e0
  refine ⟨sbigW, envI [x, y, bs.length, cp] false [Hl.none, Hl.none, Hl.none, Hl.none, R], bigInv bs, fun _ q => (bs.length - q.i 11).toNat, ?_, ⟨?_, ?_, ?_, ?_⟩, (fun _ h => nomatch h), ?_⟩
  · show [Value.slice (slP x y) ((bs.length : Int)).toNat ((cp : Int)).toNat] = _
    rw [Int.toNat_natCast, Int.toNat_natCast]
  · intro r hr ho; simp [sbigW] at hr; subst hr; cases ho
  · intro r hr ho; simp [sbigW] at hr; subst hr; exact ⟨R, by simp, Hl.le_refl _⟩
  · simp [sbigW]
  · intro r hr; simp [sbigW] at hr; subst hr; trivial
  · show Nd.holds _ _ _ sbigNd
    generalize hρ : envI [x, y, bs.length, cp] false [Hl.none, Hl.none, Hl.none, Hl.none, R] = ρ
    have v0 : ρ.i 0 = x := by rw [← hρ]; rfl
    have v1 : ρ.i 1 = y := by rw [← hρ]; rfl
    have v2 : ρ.i 2 = bs.length := by rw [← hρ]; rfl
    have w4 : ρ.h 4 = R := by rw [← hρ]; rfl
    unfold sbigNd
    simp only [Nd.holds, X.pre, X.rel, X.n, Src.ok, Src.len, Src.vals, true_and, and_true, if_true, Nat.mul_one, Nat.add_zero, Nat.reduceAdd, List.length_cons, List.length_nil, bT_tt, bT_ff, bT_bvar, bT_not, bT_and, bT_or, bT_ite, bT_lt, bT_le, bT_eq, bT_beq, bT_seq, bT_hB, bT_his, bT_hby, bT_hism, bT_hks, iev_lit, iev_var, iev_add, iev_sub, iev_mul, iev_wrap, iev_ite, iev_hI, iev_hP, iev_hmlen, sev_ite, sev_slit, sev_sof, sev_svar, TV.ev, SV.ev, CV.ev, List.map_cons, List.map_nil, Res.hl]
    rw [v2]
    refine ⟨by omega, ⟨0, by omega, rfl, rfl⟩, fun q g ⟨k, hk, h11, h10⟩ => ?_⟩
    rw [g.i 0 (by omega), g.i 1 (by omega), g.i 2 (by omega), g.h 4 (by omega), v0, v1, v2, w4, h11]
    refine ⟨fun hlt => ?_, fun hge => ?_⟩
    · have hk' : k < bs.length := by omega
      have hxr : 0 ≤ x ∧ ∀ j z, bs[j]? = some z → R.cell x.toNat (y.toNat + j) = some (.int .u8 z) := by
        rcases hR with h | h
        · subst h; simp at hk'
        · exact h
      have hc : R.cell x.toNat (y + k).toNat = some (.int .u8 bs[k]) := by
        rw [show (y + (k : Int)).toNat = y.toNat + k by omega]
        exact hxr.2 _ _ (List.getElem?_eq_getElem hk')
      rw [hc]
      refine ⟨hxr.1, hy, by omega, rfl, ⟨k + 1, by omega, ?_, ?_⟩, ?_⟩
      · show IntKind.i64.wrap (q.i 11 + 1) = _
        rw [h11]; exact wrap_i64 (by omega) (by omega)
      · show bigB (q.i 10) (valI ((q.h 4).cell (q.i 0).toNat (q.i 1 + q.i 11).toNat)) = _
        rw [h10, g.i 0 (by omega), g.i 1 (by omega), g.h 4 (by omega), v0, v1, w4, h11, hc, bigI_take bs k hk']
        rfl
      · show ((bs.length : Int) - IntKind.i64.wrap (q.i 11 + 1)).toNat < _
        rw [h11, wrap_i64 (by omega) (by omega)]; omega
    · have e : k = bs.length := by omega
      subst e
      rw [List.take_length] at h10
      refine fun _ => ⟨[], [], rfl, rfl, ⟨⟨fun _ => q.i 10, fun _ => false, fun _ => .empty, fun _ => .tuple #[], fun _ => Hl.none⟩, rfl, trivial, trivial⟩, _, bs, R, rfl, rfl, ⟨x, y, cp, rfl, hy, hR⟩, ?_⟩
      show Value.int .u64 (q.i 10) = _
      rw [h10]
def leftS : Sx.Spec where
  fn := 81
  own := []
  rd := [0]
  res := [.one (.int .i64)]
  pre := fun xs Hs Rs => ∃ p R bs bad, xs = [p] ∧ Rs = [R] ∧ InAt R p bs bad
  post := fun xs Hs Rs v Hs' F => ∃ p R bs bad, xs = [p] ∧ Rs = [R] ∧ InAt R p bs bad ∧ v = .int .i64 bs.length
def badS : Sx.Spec where
  fn := 83
  own := []
  rd := [0]
  res := [.one .bool]
  pre := fun xs Hs Rs => ∃ p R bs bad, xs = [p] ∧ Rs = [R] ∧ InAt R p bs bad
  post := fun xs Hs Rs v Hs' F => ∃ p R bs bad, xs = [p] ∧ Rs = [R] ∧ InAt R p bs bad ∧ v = .bool bad
def leftNd : Nd := .and (.e (.le (.lit 0) (.var 0))) (.and (.e (.his 1 (.var 0) (.lit 0) 0 .slice)) (.and (.e (.le (.lit 0) (.hP 1 (.var 0) (.lit 0) 0 2))) (.post [.ro 1 [.var 0] false] (.sv (.one (.int .i64 (.hP 1 (.var 0) (.lit 0) 0 2)))))))
def leftW : Walk Tryz.prog [] leftS.fn where
  Λ := noLoops
  args := [TP (.var 0) (.lit 0)]
  mem := [.ro 1 [.var 0] false]
  nv := 2
  nd := leftNd
  ok := by kernel_rfl
def badNd : Nd := .and (.e (.le (.lit 0) (.var 0))) (.and (.e (.his 1 (.var 0) (.lit 1) 0 .bool)) (.post [.ro 1 [.var 0] false] (.sv (.one (.bool (.hB 1 (.var 0) (.lit 1) 0))))))
def badW : Walk Tryz.prog [] badS.fn where
  Λ := noLoops
  args := [TP (.var 0) (.lit 0)]
  mem := [.ro 1 [.var 0] false]
  nv := 2
  nd := badNd
  ok := by kernel_rfl
theorem leftS_ok : leftS.OK Tryz.prog := by
  refine Spec.of_fn (Γ := []) (fun _ h => by cases h) ?_
  rintro xs Hs Rs hl1 hl2 ⟨p, R, bs, bad, rfl, rfl, hIn⟩
  have e0 : Hs = [] := List.length_eq_zero_iff.1 hl1
  subst e0
  obtain ⟨a, x, y, c, rfl, hc0, hc1, hx, hy, hR⟩ := hIn.whole
  refine ⟨leftW, envI [(a : Int)] false [Hl.none, R], fun _ _ => True, fun _ _ => 0, ?_, ⟨?_, ?_, ?_, ?_⟩, (fun _ h => nomatch h), ?_⟩
  · show [Value.pointer (slP (a : Int) 0)] = _
    rw [ptr0]
  · intro r hr ho; simp [leftW] at hr; subst hr; cases ho
  · intro r hr ho; simp [leftW] at hr; subst hr; exact ⟨R, by simp, Hl.le_refl _⟩
  · simp [leftW]
  · intro r hr; simp [leftW] at hr; subst hr; trivial
  · show Nd.holds _ _ _ leftNd
    generalize hρ : envI [(a : Int)] false [Hl.none, R] = ρ
    have v0 : ρ.i 0 = a := by rw [← hρ]; rfl
    have w1 : ρ.h 1 = R := by rw [← hρ]; rfl
    clear hρ
    have tn0 : Int.toNat 0 = 0 := rfl
    unfold leftNd
    simp only [Nd.holds, X.pre, X.rel, X.n, Src.ok, Src.len, Src.vals, true_and, and_true, if_true, Nat.mul_one, Nat.add_zero, Nat.reduceAdd, List.length_cons, List.length_nil, bT_tt, bT_ff, bT_bvar, bT_not, bT_and, bT_or, bT_ite, bT_lt, bT_le, bT_eq, bT_beq, bT_seq, bT_hB, bT_his, bT_hby, bT_hism, bT_hks, iev_lit, iev_var, iev_add, iev_sub, iev_mul, iev_wrap, iev_ite, iev_hI, iev_hP, iev_hmlen, sev_ite, sev_slit, sev_sof, sev_svar, TV.ev, SV.ev, CV.ev, List.map_cons, List.map_nil, Res.hl, tn0]
    rw [v0, w1, Int.toNat_natCast, hc0, sl2 hx]
    refine ⟨by omega, rfl, by omega, fun _ => ⟨[], [], rfl, rfl, ⟨⟨fun _ => bs.length, fun _ => false, fun _ => .empty, fun _ => .tuple #[], fun _ => Hl.none⟩, ?_, trivial, trivial⟩, _, R, bs, bad, rfl, rfl, hIn, ?_⟩⟩
    all_goals
      show Value.int .i64 (valP (((ρ.h 1).cell (ρ.i 0).toNat (Int.toNat 0 + 0))) 2) = _
      rw [v0, w1, Int.toNat_natCast, tn0, Nat.add_zero, hc0, sl2 hx]
      try rfl
theorem badS_ok : badS.OK Tryz.prog := by
  refine Spec.of_fn (Γ := []) (fun _ h => by cases h) ?_
  rintro xs Hs Rs hl1 hl2 ⟨p, R, bs, bad, rfl, rfl, hIn⟩
  have e0 : Hs = [] := List.length_eq_zero_iff.1 hl1
  subst e0
  obtain ⟨a, x, y, c, rfl, hc0, hc1, hx, hy, hR⟩ := hIn.whole
  refine ⟨badW, envI [(a : Int)] false [Hl.none, R], fun _ _ => True, fun _ _ => 0, ?_, ⟨?_, ?_, ?_, ?_⟩, (fun _ h => nomatch h), ?_⟩
  · show [Value.pointer (slP (a : Int) 0)] = _
    rw [ptr0]
  · intro r hr ho; simp [badW] at hr; subst hr; cases ho
  · intro r hr ho; simp [badW] at hr; subst hr; exact ⟨R, by simp, Hl.le_refl _⟩
  · simp [badW]
  · intro r hr; simp [badW] at hr; subst hr; trivial
  · show Nd.holds _ _ _ badNd
    generalize hρ : envI [(a : Int)] false [Hl.none, R] = ρ
    have v0 : ρ.i 0 = a := by rw [← hρ]; rfl
    have w1 : ρ.h 1 = R := by rw [← hρ]; rfl
    clear hρ
    have tn1 : Int.toNat 1 = 1 := rfl
    unfold badNd
    simp only [Nd.holds, X.pre, X.rel, X.n, Src.ok, Src.len, Src.vals, true_and, and_true, if_true, Nat.mul_one, Nat.add_zero, Nat.reduceAdd, List.length_cons, List.length_nil, bT_tt, bT_ff, bT_bvar, bT_not, bT_and, bT_or, bT_ite, bT_lt, bT_le, bT_eq, bT_beq, bT_seq, bT_hB, bT_his, bT_hby, bT_hism, bT_hks, iev_lit, iev_var, iev_add, iev_sub, iev_mul, iev_wrap, iev_ite, iev_hI, iev_hP, iev_hmlen, sev_ite, sev_slit, sev_sof, sev_svar, TV.ev, SV.ev, CV.ev, List.map_cons, List.map_nil, Res.hl, tn1]
    rw [v0, w1, Int.toNat_natCast, hc1]
    refine ⟨by omega, rfl, fun _ => ⟨[], [], rfl, rfl, ⟨⟨fun _ => 0, fun _ => bad, fun _ => .empty, fun _ => .tuple #[], fun _ => Hl.none⟩, ?_, trivial, trivial⟩, _, R, bs, bad, rfl, rfl, hIn, ?_⟩⟩
    all_goals
      show Value.bool (valB (((ρ.h 1).cell (ρ.i 0).toNat (Int.toNat 1 + 0)))) = _
      rw [v0, w1, Int.toNat_natCast, tn1, hc1]
      try rfl
def genI (L : LM) : Int := bigI (L.note.take 8)
def genS : Sx.Spec where
  fn := 45
  own := []
  rd := [0]
  res := [.one (.int .u64)]
  pre := fun xs Hs Rs => ∃ p R dp sl L, xs = [p] ∧ Rs = [R] ∧ LogRd R p dp sl L
  post := fun xs Hs Rs v Hs' F => ∃ p R dp sl L, xs = [p] ∧ Rs = [R] ∧ LogRd R p dp sl L ∧ v = .int .u64 (genI L)
def gnΓ : List Sx.Spec := [sbigS, lnoteS]
theorem gnΓ_ok : ∀ t ∈ gnΓ, t.OK Tryz.prog := fun t ht => by
  simp only [gnΓ, List.mem_cons, List.mem_nil_iff, or_false] at ht
  rcases ht with rfl | rfl
  · exact sbigS_ok
  · exact lnoteS_ok
def genNd : Nd := .and (.pre (.call 1 2 [.sv (.one (.hptr (.var 0) (.lit 0)))] [] [.ro 1 [.var 0] false])) (.ext (.call 1 2 [.sv (.one (.hptr (.var 0) (.lit 0)))] [] [.ro 1 [.var 0] false]) (.ext (.alloc 18) (.and (.pre (.call 0 19 [.sv (.one (.sl (.var 18) (.lit 0) (.lit 8) (.lit 16)))] [] [.blk 18 (ckCVs 2 (List.replicate 16 (Ck.int .u8))) 60])) (.ext (.call 0 19 [.sv (.one (.sl (.var 18) (.lit 0) (.lit 8) (.lit 16)))] [] [.blk 18 (ckCVs 2 (List.replicate 16 (Ck.int .u8))) 60]) (.post [.ro 1 [.var 0] false, .dead] (.sv (.one (.int .u64 (.var 19)))))))))
def genW : Walk Tryz.prog gnΓ genS.fn where
  Λ := noLoops
  args := [TP (.var 0) (.lit 0)]
  mem := [.ro 1 [.var 0] false]
  nv := 2
  nd := genNd
  ok := by kernel_rfl
theorem gng0 : gnΓ[0]? = some sbigS := rfl
theorem gng1 : gnΓ[1]? = some lnoteS := rfl
theorem gnr0 : sbigS.res = [.one (.int .u64)] := rfl
theorem gnr1 : lnoteS.res = [.agg (u8s 16)] := rfl
theorem genS_ok : genS.OK Tryz.prog := by
  refine Spec.of_fn (Γ := gnΓ) gnΓ_ok ?_
  rintro xs Hs Rs hl1 hl2 ⟨p, R, dp, sl, L, rfl, rfl, hL⟩
  have e0 : Hs = [] := List.length_eq_zero_iff.1 hl1
  subst e0
  obtain ⟨a, rfl, hLi⟩ := id hL
  refine ⟨genW, envI [(a : Int)] false [Hl.none, R], fun _ _ => True, fun _ _ => 0, ?_, ⟨?_, ?_, ?_, ?_⟩, (fun _ h => nomatch h), ?_⟩
  · show [Value.pointer (slP (a : Int) 0)] = _
    rw [ptr0]
  · intro r hr ho; simp [genW] at hr; subst hr; cases ho
  · intro r hr ho; simp [genW] at hr; subst hr; exact ⟨R, by simp, Hl.le_refl _⟩
  · simp [genW]
  · intro r hr; simp [genW] at hr; subst hr; trivial
  · show Nd.holds _ _ _ genNd
    generalize hρ : envI [(a : Int)] false [Hl.none, R] = ρ
    have v0 : ρ.i 0 = a := by rw [← hρ]; rfl
    have w1 : ρ.h 1 = R := by rw [← hρ]; rfl
    clear hρ
    unfold genNd
    simp only [Nd.holds, X.pre, X.rel, X.n, Src.ok, Src.len, Src.vals, true_and, and_true, if_true, Nat.mul_one, Nat.add_zero, Nat.reduceAdd, List.length_cons, List.length_nil, bT_tt, bT_ff, bT_bvar, bT_not, bT_and, bT_or, bT_ite, bT_lt, bT_le, bT_eq, bT_beq, bT_seq, bT_hB, bT_his, bT_hby, bT_hism, bT_hks, iev_lit, iev_var, iev_add, iev_sub, iev_mul, iev_wrap, iev_ite, iev_hI, iev_hP, iev_hmlen, sev_ite, sev_slit, sev_sof, sev_svar, TV.ev, SV.ev, CV.ev, List.map_cons, List.map_nil, Res.hl, cpTV, Cp.sv, Ck.cv, cpSVs, Cp.len, Ck.len, newHs_zero, newHs_one, roots_ne, gng0, gng1, gnr0, gnr1]
    rw [v0, w1, ptr0]
    refine ⟨⟨_, R, dp, sl, L, rfl, rfl, hL⟩, fun q1 g1 ⟨F1, ⟨p', R', dp', sl', L', e1, e2, hL', hv⟩, _⟩ q2 g2 p2 => ?_⟩
    simp only [List.cons.injEq, and_true] at e1 e2
    subst e1 e2
    obtain ⟨_, _, rfl⟩ := hL.uniq hL'
    have ec : (ckCVs 2 (List.replicate 16 (Ck.int .u8))).map (CV.ev q1) = bys L.note := List.toArray_inj (Value.agg.inj hv)
    have ec2 : (ckCVs 2 (List.replicate 16 (Ck.int .u8))).map (CV.ev q2) = bys L.note := (CV.agreeL g2 _ (by decide)).trans ec
    have hn16 := hLi.1.note
    have hRd : RdW (Hl.one (q2.i 18).toNat (.cells (bys L.note).toArray 60 (0, 0))) (.slice (slP (q2.i 18) 0) (Int.toNat 8) (Int.toNat 16)) (L.note.take 8) := by
      refine ⟨q2.i 18, 0, 16, ?_, Int.le_refl _, Or.inr ⟨p2, fun j z hj => ?_⟩⟩
      · rw [List.length_take, hn16]; rfl
      · have hj8 : j < 8 := by have := (List.getElem?_eq_some_iff.1 hj).1; rw [List.length_take] at this; omega
        rw [List.getElem?_take_of_lt hj8] at hj
        rw [Hl.one_cell, List.getElem?_toArray, bys_get, Int.toNat_zero, Nat.zero_add, hj]; rfl
    rw [ec2]
    refine ⟨⟨_, _, _, rfl, rfl, hRd, by rw [List.length_take]; omega⟩, fun q3 g3 ⟨F3, ⟨u', bs', R3, e1, e2, hR3, hv3⟩, _⟩ _ => ?_⟩
    simp only [List.cons.injEq, and_true] at e1 e2
    subst e1 e2
    rw [← hRd.uniq hR3] at hv3
    have hv3 : Value.int .u64 (q3.i 19) = .int .u64 (genI L) := hv3
    exact ⟨[], [], rfl, rfl, ⟨⟨fun _ => genI L, fun _ => false, fun _ => .empty, fun _ => .tuple #[], fun _ => Hl.none⟩, hv3, trivial, trivial⟩, _, R, dp, sl, L, rfl, rfl, hL, hv3⟩
end Go.Proofs.YtomdimlnggpgbaaGreatDoor
namespace Go.Sx
open Go
theorem OwnsH.own_mem {F : Hl} {e : TypeId} {k : Nat} {v : Value} {n : Nat} {us : List Value} (h : OwnsH F e k v n us) {b : Nat} (hb : v.ownBlock = some b) : F.mem b := by
  rcases h.2 with ⟨h, _⟩ | ⟨gg, cap, cur, h, hg, _⟩
  · rw [h] at hb; cases hb
  · rw [h] at hb
    have : gg = b := by simpa [Value.ownBlock] using hb
    subst this
    unfold Hl.mem; rw [hg]; rfl
theorem OwnsH.mono {F G : Hl} (hl : F.le G) {e : TypeId} {k : Nat} {v : Value} {m : Nat} {us : List Value} (h : OwnsH F e k v m us) : OwnsH G e k v m us := by
  refine ⟨h.1, h.2.imp id fun ⟨g, cap, cur, hv, hg, r⟩ => ⟨g, cap, cur, hv, hl _ _ hg, r⟩⟩
theorem OwnsH.inj {F : Hl} {e : TypeId} {k : Nat} {v : Value} {n m : Nat} {us ws : List Value} (h1 : OwnsH F e k v n us) (h2 : OwnsH F e k v m ws) : n = m ∧ us = ws := by
  obtain ⟨l1, h1⟩ := h1
  obtain ⟨l2, h2⟩ := h2
  rcases h1 with ⟨h1, hn⟩ | ⟨g, cap, cur, h1, hg, _, _, _, ht⟩ <;> rcases h2 with ⟨h2, hm⟩ | ⟨g', cap', cur', h2, hg', _, _, _, ht'⟩
  · subst hn; subst hm
    refine ⟨rfl, ?_⟩
    rw [Nat.zero_mul] at l1 l2
    rw [List.length_eq_zero_iff.1 l1, List.length_eq_zero_iff.1 l2]
  · rw [h1] at h2; cases h2
  · rw [h1] at h2; cases h2
  · rw [h1] at h2
    simp only [Value.slice.injEq, Option.some.injEq, Addr.mk.injEq, and_true] at h2
    obtain ⟨eg, en, _⟩ := h2
    subst eg; subst en
    rw [hg] at hg'
    simp only [Option.some.injEq, Obj.cells.injEq, and_true] at hg'
    rw [← ht, ← ht', hg']
    exact ⟨rfl, rfl⟩
theorem OwnsH.cellAt {F : Hl} {e : TypeId} {x l c : Int} {n : Nat} {us : List Value} (h : OwnsH F e 1 (.slice (slP x 0) l.toNat c.toNat) n us) (hx : -1 ≤ x) {i : Nat} (hi : i < n) : 0 ≤ x ∧ F.cell x.toNat i = us[i]? := by
  obtain ⟨hl, h⟩ := h
  rcases h with ⟨_, hn⟩ | ⟨g, cap, cur, hv, hg, hle, hm, hs, ht⟩
  · omega
  · simp only [Value.slice.injEq] at hv
    obtain ⟨hp, _, _⟩ := hv
    have h0 : 0 ≤ x := by
      rcases Int.lt_or_le x 0 with hlt | h0
      · rw [show x = -1 by omega, slP_nil] at hp; cases hp
      · exact h0
    rw [slP_pos h0] at hp
    simp only [Option.some.injEq, Addr.mk.injEq, and_true] at hp
    refine ⟨h0, ?_⟩
    rw [hp.1, ← ht]; unfold Hl.cell; rw [hg, List.getElem?_take_of_lt (by omega), Array.getElem?_toList]
end Go.Sx
namespace Go.Proofs.YtomdimlnggpgbaaGreatDoor
open Go Go.Sx Go.Pk
theorem slP_eqS {a b x y : Int} (hx : 0 ≤ x) (hy : 0 ≤ y) (hb : 0 ≤ b) (h : slP a b = slP x y) : a = x ∧ b = y := by
  rcases Int.lt_or_le a 0 with ha | ha
  · exfalso
    rw [slP_pos hx] at h
    unfold slP at h
    rw [if_neg (by omega)] at h
    split at h
    · cases h
    · simp only [Option.some.injEq, Addr.mk.injEq] at h
      obtain ⟨_, _, h⟩ := h
      cases h
  · rw [slP_pos ha, slP_pos hx] at h
    simp only [Option.some.injEq, Addr.mk.injEq] at h
    omega
theorem own_slP {a y : Int} {l c : Nat} (h : 0 ≤ a) : (Value.slice (slP a y) l c).ownBlock = some a.toNat := by
  rw [slP_pos h]; rfl
theorem app_new {H : Hl} {x x' : Int} {l c l' c' : Nat} (hx : -1 ≤ x') (h : some x'.toNat = (Value.slice (slP x 0) l c).ownBlock ∨ ¬ H.mem x'.toNat ∨ x' = -1) : ∀ b, H.mem b → some b ≠ (Value.slice (slP x 0) l c).ownBlock → some b ≠ (Value.slice (slP x' 0) l' c').ownBlock := by
  intro b hb hne he
  rcases Int.lt_or_le x' 0 with hn | hn
  · rw [show x' = -1 by omega, slP_nil] at he; cases he
  · rw [own_slP hn] at he
    have he : b = x'.toNat := by simpa using he
    rcases h with h | h | h
    · exact hne (by rw [he]; exact h)
    · rw [← he] at h; exact h hb
    · omega
def RowR (F : Hl) (o : Option Nat) (u : Value) (r : List Int) : Prop := ∃ (x y : Int) (c : Nat), u = .slice (slP x y) r.length c ∧ -1 ≤ x ∧ 0 ≤ y ∧ (r = [] ∨ (0 ≤ x ∧ some x.toNat ≠ o ∧ ∀ j z, r[j]? = some z → F.cell x.toNat (y.toNat + j) = some (.int .u8 z)))
theorem cell_mem {F : Hl} {b j : Nat} {v : Value} (h : F.cell b j = some v) : F.mem b := by
  unfold Hl.cell at h
  unfold Hl.mem
  cases hF : F b with
  | none => rw [hF] at h; cases h
  | some o => rfl
theorem cell_of {F G : Hl} {b j : Nat} {v : Value} (h : F.cell b j = some v) (e : G b = F b) : G.cell b j = some v := by
  unfold Hl.cell at h ⊢
  rw [e]; exact h
theorem RowR.keep {F G : Hl} {o o' : Option Nat} {u : Value} {r : List Int} (h : RowR F o u r) (hk : ∀ b, F.mem b → some b ≠ o → G b = F b) (hn : ∀ b, F.mem b → some b ≠ o → some b ≠ o') : RowR G o' u r := by
  obtain ⟨x, y, c, hu, hx, hy, h⟩ := h
  refine ⟨x, y, c, hu, hx, hy, ?_⟩
  cases r with
  | nil => exact Or.inl rfl
  | cons z r =>
    rcases h with h | ⟨h0, hne, hc⟩
    · cases h
    · have hm : F.mem x.toNat := cell_mem (hc 0 z rfl)
      exact Or.inr ⟨h0, hn _ hm hne, fun j w hj => cell_of (hc j w hj) (hk _ hm hne)⟩
theorem RowR.rd {F : Hl} {o : Option Nat} {u : Value} {r : List Int} (h : RowR F o u r) : RdW F u r := by
  obtain ⟨x, y, c, hu, _, hy, h⟩ := h
  exact ⟨x, y, c, hu, hy, h.imp id fun h => ⟨h.1, h.2.2⟩⟩
theorem RowR.of {F : Hl} {x y l c : Int} {r : List Int} (h : RdW F (.slice (slP x y) l.toNat c.toNat) r) (hx : -1 ≤ x) (hy : 0 ≤ y) : RowR F none (.slice (slP x y) l.toNat c.toNat) r := by
  obtain ⟨x', y', c', hu, hy', h⟩ := h
  simp only [Value.slice.injEq] at hu
  obtain ⟨h1, h2, h3⟩ := hu
  refine ⟨x, y, c.toNat, by rw [h2], hx, hy, h.imp id fun ⟨h0, h⟩ => ?_⟩
  obtain ⟨e1, e2⟩ := slP_inj hx hy (by omega) hy' h1
  subst e1
  have e2 := e2 h0
  subst e2
  exact ⟨h0, by simp, h⟩
def RowsR (F : Hl) (v : Value) (rows : List (List Int)) : Prop := ∃ us : List Value, OwnsH F 46 1 v rows.length us ∧
  ∀ (j : Nat) (u : Value) (r : List Int), us[j]? = some u → rows[j]? = some r → RowR F v.ownBlock u r
theorem RowsR.nil (F : Hl) : RowsR F (.slice none 0 0) [] := ⟨[], ⟨rfl, Or.inl ⟨rfl, rfl⟩⟩, (fun j u r h => by simp at h)⟩
theorem RowsR.len {F : Hl} {v : Value} {rows : List (List Int)} {us : List Value} (h : OwnsH F 46 1 v rows.length us) : us.length = rows.length := by
  have := h.1; omega
theorem RowsR.mono {F G : Hl} (hl : F.le G) {v : Value} {rows : List (List Int)} (h : RowsR F v rows) : RowsR G v rows := by
  obtain ⟨us, ho, hr⟩ := h
  refine ⟨us, OwnsH.mono hl ho, fun j u r hu hrr => (hr j u r hu hrr).keep (fun b hm _ => ?_) (fun _ _ h => h)⟩
  obtain ⟨o, ho⟩ := Option.isSome_iff_exists.1 hm
  rw [hl _ _ ho, ho]
theorem RowsR.snoc {F B G : Hl} {v v' u : Value} {rows : List (List Int)} {r : List Int} (h : RowsR F v rows) (hd : F.dis B) (hu : RowR B none u r)
    (happ : ∀ xs, OwnsH (F.un B) 46 1 v rows.length xs → OwnsH G 46 1 v' (rows.length + 1) (xs ++ [u]))
    (hk : ∀ b, (F.un B).mem b → some b ≠ v.ownBlock → G b = (F.un B) b) (hn : ∀ b, (F.un B).mem b → some b ≠ v.ownBlock → some b ≠ v'.ownBlock) : RowsR G v' (rows ++ [r]) := by
  obtain ⟨us, ho, hr⟩ := h
  have hul := RowsR.len ho
  have hold : ∀ (j : Nat) (w : Value) (s : List Int), us[j]? = some w → rows[j]? = some s → RowR (F.un B) v.ownBlock w s := fun j w s hj hs =>
    (hr j w s hj hs).keep (fun b hm _ => by obtain ⟨o, ho⟩ := Option.isSome_iff_exists.1 hm; rw [Hl.un_at_left ho, ho]) (fun b _ h => h)
  have hun : RowR (F.un B) v.ownBlock u r := hu.keep (fun b hm _ => by rw [Hl.un_at_right fun h2 => hd b ⟨h2, hm⟩]) fun b hm _ e => hd b ⟨ho.own_mem e.symm, hm⟩
  refine ⟨us ++ [u], ?_, fun j w s hj hs => ?_⟩
  · rw [List.length_append, List.length_singleton]
    exact happ us (ho.mono (Hl.un_left _ _))
  · rcases Nat.lt_or_ge j us.length with hl | hl
    · rw [List.getElem?_append_left hl] at hj
      rw [List.getElem?_append_left (by omega)] at hs
      exact (hold j w s hj hs).keep hk hn
    · rw [List.getElem?_append_right hl] at hj
      rw [List.getElem?_append_right (by omega)] at hs
      have hj := List.mem_of_getElem? hj
      have hs := List.mem_of_getElem? hs
      rw [List.mem_singleton] at hj hs
      subst hj; subst hs
      exact hun.keep hk hn
theorem RowsR.at {F : Hl} {x l c : Int} {rows : List (List Int)} (h : RowsR F (.slice (slP x 0) l.toNat c.toNat) rows) (hx : -1 ≤ x) (hl : 0 ≤ l) : l = rows.length ∧ ∀ (i : Nat) r, rows[i]? = some r → 0 ≤ x ∧ ∃ u, F.cell x.toNat i = some u ∧ RowR F (some x.toNat) u r := by
  obtain ⟨us, ho, hr⟩ := h
  have hul := RowsR.len ho
  refine ⟨?_, fun i r hi => ?_⟩
  · rcases ho.2 with ⟨h, hn⟩ | ⟨g, cap, cur, h, _⟩
    · simp only [Value.slice.injEq] at h; omega
    · simp only [Value.slice.injEq] at h; omega
  · have hi' := (List.getElem?_eq_some_iff.1 hi).1
    obtain ⟨h0, hc⟩ := ho.cellAt hx hi'
    have hu : us[i]? = some us[i] := List.getElem?_eq_getElem (by omega)
    have := hr i _ r hu hi
    rw [own_slP h0] at this
    exact ⟨h0, _, by rw [hc, hu], this⟩
theorem RowsR.uniq {F : Hl} {v : Value} {a b : List (List Int)} (h1 : RowsR F v a) (h2 : RowsR F v b) : a = b := by
  obtain ⟨us, ho, hr⟩ := h1
  obtain ⟨ws, ho', hr'⟩ := h2
  obtain ⟨el, e⟩ := ho.inj ho'
  subst e
  have hul := RowsR.len ho
  apply List.ext_getElem el
  intro j hj hj'
  have hu : us[j]? = some us[j] := List.getElem?_eq_getElem (by omega)
  exact (hr j _ _ hu (List.getElem?_eq_getElem hj)).rd.uniq (hr' j _ _ hu (List.getElem?_eq_getElem hj')).rd
theorem rowsR_app {G F B : Hl} {x l c x' c' : Int} {rows : List (List Int)} {u : Value} {r : List Int} (h : RowsR F (.slice (slP x 0) l.toNat c.toNat) rows) (hx : -1 ≤ x) (hl : 0 ≤ l) (hd : F.dis B) (hu : RowR B none u r) (hx' : -1 ≤ x')
    (happ : ∀ xs, OwnsH (F.un B) 46 1 (.slice (slP x 0) l.toNat c.toNat) l.toNat xs → OwnsH G 46 1 (.slice (slP x' 0) (l.toNat + 1) c'.toNat) (l.toNat + 1) (xs ++ [u]))
    (hkeep : ∀ b, (F.un B).mem b → some b ≠ (Value.slice (slP x 0) l.toNat c.toNat).ownBlock → G b = (F.un B) b) (hnew : some x'.toNat = (Value.slice (slP x 0) l.toNat c.toNat).ownBlock ∨ ¬ (F.un B).mem x'.toNat ∨ x' = -1) : RowsR G (.slice (slP x' 0) (l + 1).toNat c'.toNat) (rows ++ [r]) := by
  have hlr : l = rows.length := (h.at hx hl).1
  have e1 : (l + 1).toNat = rows.length + 1 := by omega
  have e2 : l.toNat = rows.length := by omega
  rw [e2] at happ
  rw [e1]
  rw [e2] at h hkeep hnew
  exact RowsR.snoc h hd hu happ hkeep (app_new hx' hnew)
end Go.Proofs.YtomdimlnggpgbaaGreatDoor
namespace Go.Proofs.YtomdimlnggpgbaaGreatDoor
open Go Go.Sx Go.Pk
def tx (bs : List Int) : List Int × List Int × Bool := inText bs false 4096
def takenG : Nat → List Int → List (List Int)
  | 0, _ => []
  | n + 1, bs => if bs = [] then [] else if (tx bs).2.2 = true then [] else (tx bs).1 :: takenG n (tx bs).2.1
def takenL (bs : List Int) : List (List Int) := takenG bs.length bs
theorem tx_less {bs : List Int} (h0 : bs ≠ []) (h : (tx bs).2.2 = false) : (tx bs).2.1.length < bs.length := by
  have hl : 0 < bs.length := List.length_pos_iff.2 h0
  unfold tx inText at h ⊢
  split at h
  · cases h
  · rename_i hc
    rw [if_neg hc]
    have h2 : (numR bs).2 ≠ 0 := fun e => hc (Or.inr (Or.inl e))
    show (bs.drop _).length < _
    rw [List.length_drop]; omega
theorem takenG_nil : ∀ n, takenG n [] = []
  | 0 => rfl
  | _ + 1 => rfl
theorem takenG_same : ∀ (n m : Nat) (bs : List Int), bs.length ≤ n → bs.length ≤ m → takenG n bs = takenG m bs
  | 0, m, bs, h, _ => by
    have : bs = [] := List.length_eq_zero_iff.1 (by omega)
    rw [this, takenG_nil, takenG_nil]
  | n + 1, 0, bs, _, h => by
    have : bs = [] := List.length_eq_zero_iff.1 (by omega)
    rw [this, takenG_nil, takenG_nil]
  | n + 1, m + 1, bs, h1, h2 => by
    unfold takenG
    by_cases h0 : bs = []
    · rw [if_pos h0, if_pos h0]
    · rw [if_neg h0, if_neg h0]
      by_cases hb : (tx bs).2.2 = true
      · rw [if_pos hb, if_pos hb]
      · rw [if_neg hb, if_neg hb]
        have := tx_less h0 (Bool.eq_false_iff.2 hb)
        rw [takenG_same n m _ (by omega) (by omega)]
theorem takenG_more (n : Nat) (bs : List Int) (h : bs.length ≤ n) : takenG n bs = takenL bs := takenG_same n bs.length bs h (Nat.le_refl _)
theorem takenL_at {bs : List Int} (h : bs ≠ []) : takenL bs = if (tx bs).2.2 = true then [] else (tx bs).1 :: takenL (tx bs).2.1 := by
  rw [← takenG_more (bs.length + 1) bs (by omega)]
  show (if bs = [] then [] else if (tx bs).2.2 = true then [] else (tx bs).1 :: takenG bs.length (tx bs).2.1) = _
  rw [if_neg h]
  cases hb : (tx bs).2.2 with
  | true => rfl
  | false => rw [if_neg (by simp), if_neg (by simp), takenG_more _ _ (by have := tx_less h hb; omega)]
def takenS : Sx.Spec where
  fn := 46
  own := []
  rd := [0]
  res := [.one .sl]
  pre := fun xs Hs Rs => ∃ u bs R, xs = [u] ∧ Rs = [R] ∧ RdW R u bs ∧ bytes256 bs ∧ bs.length ≤ 1000000
  post := fun xs Hs Rs v Hs' F => ∃ u bs R, xs = [u] ∧ Rs = [R] ∧ RdW R u bs ∧ RowsR F v (takenL bs)
def tnΓ : List Sx.Spec := [readPS, leftS, textS, badS]
theorem tnΓ_ok : ∀ t ∈ tnΓ, t.OK Tryz.prog := fun t ht => by
  simp only [tnΓ, List.mem_cons, List.mem_nil_iff, or_false] at ht
  rcases ht with rfl | rfl | rfl | rfl
  · exact readPS_ok
  · exact leftS_ok
  · exact textS_ok
  · exact badS_ok
def takenNd : Nd := .and (.pre (.call 0 5 [.sv (.one (.sl (.var 0) (.var 1) (.var 2) (.var 3)))] [] [.ro 4 [.var 0] false])) (.ext (.call 0 5 [.sv (.one (.sl (.var 0) (.var 1) (.var 2) (.var 3)))] [] [.ro 4 [.var 0] false]) (.and (.inv 0 [⟨53, 0, .int .i64 (.lit (-1))⟩, ⟨54, 0, .int .i64 (.lit 0)⟩, ⟨55, 0, .int .i64 (.lit 0)⟩] [(51, some 5), (56, none)]) (.havoc 0 0 7 (.and (.pre (.call 1 60 [.sv (.one (.hptr (.var 5) (.var 6)))] [] [.hp 51 [] [.var 5] []])) (.ext (.call 1 60 [.sv (.one (.hptr (.var 5) (.var 6)))] [] [.hp 51 [] [.var 5] []]) (.and (.imp (.lt (.lit 0) (.var 60)) (.and (.pre (.call 2 61 [.sv (.one (.hptr (.var 5) (.var 6))), .sv (.one (.int .i64 (.lit 4096)))] [.hp 51 [] [.var 5] []] [])) (.ext (.call 2 61 [.sv (.one (.hptr (.var 5) (.var 6))), .sv (.one (.int .i64 (.lit 4096)))] [.hp 51 [] [.var 5] []] []) (.and (.pre (.call 3 65 [.sv (.one (.hptr (.var 5) (.var 6)))] [] [.hp 61 [51] [.var 5] []])) (.ext (.call 3 65 [.sv (.one (.hptr (.var 5) (.var 6)))] [] [.hp 61 [51] [.var 5] []]) (.and (.imp (.bvar 65) (.post [.ro 4 [.var 0] false, .hp 61 [51] [.var 5] [], .hp 56 [] [.var 53] [], .hp 62 [] [.var 61] []] (.sv (.one (.sl (.var 53) (.lit 0) (.var 54) (.var 55)))))) (.imp (.not (.bvar 65)) (.ext (.alloc 66) (.ext (.mrg 67 (.hp 56 [] [.var 53] []) (.hp 62 [] [.var 61] [])) (.and (.pre (.app 68 46 1 24 (.sl (.var 53) (.lit 0) (.var 54) (.var 55)) (.var 54) (.hp 67 [56, 62] [.var 53, .var 61, .var 61] []) (.cvs [.sl (.var 61) (.var 62) (.var 63) (.var 64)] 1))) (.ext (.app 68 46 1 24 (.sl (.var 53) (.lit 0) (.var 54) (.var 55)) (.var 54) (.hp 67 [56, 62] [.var 53, .var 61, .var 61] []) (.cvs [.sl (.var 61) (.var 62) (.var 63) (.var 64)] 1)) (.back 0 0 [⟨53, 0, .int .i64 (.var 68)⟩, ⟨54, 0, .int .i64 (.add (.var 54) (.lit 1))⟩, ⟨55, 0, .int .i64 (.var 69)⟩] [(51, some 61), (56, some 68)])))))))))))) (.imp (.not (.lt (.lit 0) (.var 60))) (.post [.ro 4 [.var 0] false, .hp 51 [] [.var 5] [], .hp 56 [] [.var 53] []] (.sv (.one (.sl (.var 53) (.lit 0) (.var 54) (.var 55))))))))))))
def takenW : Walk Tryz.prog tnΓ takenS.fn where
  Λ := fun p => if lp0 p then some ⟨0, [(3, .sv (.one (.sl (.var 53) (.lit 0) (.var 54) (.var 55))))], [(1, .hp 51 [] [.var 5] []), (2, .hp 56 [] [.var 53] [])], 60⟩ else none
  args := [.sv (.one (.sl (.var 0) (.var 1) (.var 2) (.var 3)))]
  mem := [.ro 4 [.var 0] false]
  nv := 5
  nd := takenNd
  ok := by kernel_rfl
theorem tng0 : tnΓ[0]? = some readPS := rfl
theorem tng1 : tnΓ[1]? = some leftS := rfl
theorem tng2 : tnΓ[2]? = some textS := rfl
theorem tng3 : tnΓ[3]? = some badS := rfl
theorem tnr0 : readPS.res = [.one .ptr] := rfl
theorem tnr1 : leftS.res = [.one (.int .i64)] := rfl
theorem tnr2 : textS.res = [.one .sl] := rfl
theorem tnr3 : badS.res = [.one .bool] := rfl
theorem rsl (n : Nat) : (cpRoots n [Cp.one .sl] ≠ []) = True := by simp [cpRoots, Cp.roots, Ck.root]
theorem rptr (n : Nat) : (cpRoots n [Cp.one .ptr] ≠ []) = True := by simp [cpRoots, Cp.roots, Ck.root]
theorem takenS_ok : takenS.OK Tryz.prog := by
  refine Spec.of_fn (Γ := tnΓ) tnΓ_ok ?_
  rintro xs Hs Rs hl1 hl2 ⟨u, bs, R, rfl, rfl, hRd, hby, hlen⟩
  have e0 : Hs = [] := List.length_eq_zero_iff.1 hl1
  subst e0
  obtain ⟨x, y, c, rfl, hy, hR⟩ := id hRd
  refine ⟨takenW, envI [x, y, bs.length, c] false [Hl.none, Hl.none, Hl.none, Hl.none, R], fun _ q => ∃ rest rows, InAt (q.h 51) (.pointer (slP (q.i 5) (q.i 6))) rest false ∧ -1 ≤ q.i 53 ∧ 0 ≤ q.i 54 ∧ 0 ≤ q.i 55 ∧ RowsR (q.h 56) (.slice (slP (q.i 53) 0) (q.i 54).toNat (q.i 55).toNat) rows ∧ rows ++ takenL rest = takenL bs ∧ rows.length + rest.length ≤ bs.length, fun _ q => (bs.length - q.i 54).toNat, ?_, ⟨?_, ?_, ?_, ?_⟩, (fun _ h => nomatch h), ?_⟩
  · show [Value.slice (slP x y) ((bs.length : Int)).toNat ((c : Int)).toNat] = _
    rw [Int.toNat_natCast, Int.toNat_natCast]
  · intro r hr ho; simp [takenW] at hr; subst hr; cases ho
  · intro r hr ho; simp [takenW] at hr; subst hr; exact ⟨R, by simp, Hl.le_refl _⟩
  · simp [takenW]
  · intro r hr; simp [takenW] at hr; subst hr; trivial
  · show Nd.holds _ _ _ takenNd
    generalize hρ : envI [x, y, bs.length, c] false [Hl.none, Hl.none, Hl.none, Hl.none, R] = ρ
    have v0 : ρ.i 0 = x := by rw [← hρ]; rfl
    have v1 : ρ.i 1 = y := by rw [← hρ]; rfl
    have v2 : ρ.i 2 = bs.length := by rw [← hρ]; rfl
    have v3 : ρ.i 3 = c := by rw [← hρ]; rfl
    have w4 : ρ.h 4 = R := by rw [← hρ]; rfl
    clear hρ
    have out : ∀ {q : Env} {rows : List (List Int)} {mem : Mem}, okIdx mem [] [2] = true → (uni q mem [2]) = q.h 56 → -1 ≤ q.i 53 → 0 ≤ q.i 54 → 0 ≤ q.i 55 → RowsR (q.h 56) (.slice (slP (q.i 53) 0) (q.i 54).toNat (q.i 55).toNat) rows → rows = takenL bs → postOf takenS [.slice (slP x y) bs.length c] [] [R] q mem (.sv (.one (.sl (.var 53) (.lit 0) (.var 54) (.var 55)))) := by
      intro q rows mem hok hu h1 h2 h3 hr he _
      subst he
      exact ⟨[], [2], rfl, hok, ⟨⟨fun k => [q.i 53, 0, q.i 54, q.i 55].getD k 0, fun _ => false, fun _ => .empty, fun _ => .tuple #[], fun _ => Hl.none⟩, rfl, ⟨h1, Int.le_refl _, h2, h3⟩, trivial⟩, _, bs, R, rfl, rfl, hRd, by rw [hu]; exact hr⟩
    unfold takenNd
    simp only [Nd.holds, X.pre, X.rel, X.n, Src.ok, Src.len, Src.vals, true_and, and_true, if_true, Nat.mul_one, Nat.add_zero, Nat.reduceAdd, List.length_cons, List.length_nil, bT_tt, bT_ff, bT_bvar, bT_not, bT_and, bT_or, bT_ite, bT_lt, bT_le, bT_eq, bT_beq, bT_seq, bT_hB, bT_his, bT_hby, bT_hism, bT_hks, iev_lit, iev_var, iev_add, iev_sub, iev_mul, iev_wrap, iev_ite, iev_hI, iev_hP, iev_hmlen, sev_ite, sev_slit, sev_sof, sev_svar, TV.ev, SV.ev, CV.ev, List.map_cons, List.map_nil, Res.hl, cpTV, Cp.sv, Ck.cv, cpSVs, Cp.len, Ck.len, newHs_zero, newHs_one, roots_ne, tng0, tng1, tng2, tng3, tnr0, tnr1, tnr2, tnr3, rsl, rptr]
    rw [v0, v1, v2, v3, w4, Int.toNat_natCast, Int.toNat_natCast]
    refine ⟨⟨_, bs, R, rfl, rfl, hRd, hby, hlen⟩, fun q1 g1 ⟨F1, ⟨u', bs', R', e1, e2, hR', hIn⟩, hF1, _⟩ => ?_⟩
    simp only [List.cons.injEq, and_true] at e1 e2
    subst e1 e2
    obtain rfl := hRd.uniq hR'
    rw [← hF1 trivial] at hIn
    refine ⟨⟨bs, [], hIn, Int.le_refl _, Int.le_refl _, Int.le_refl _, RowsR.nil _, rfl, by simp⟩, fun q2 g2 ⟨rest, rows, hI, x53, x54, x55, hO, hsum, hle⟩ => ?_⟩
    have hlr := (hO.at x53 x54).1
    refine ⟨⟨_, _, rest, false, rfl, rfl, hI⟩, fun q3 g3 ⟨F3, ⟨p3, R3, bs3, bad3, e1, e2, hI3, hv3⟩, _⟩ => ?_⟩
    simp only [List.cons.injEq, and_true] at e1 e2
    subst e1 e2
    obtain ⟨e3, _⟩ := hI.uniq hI3
    subst e3
    have hv3 : q3.i 60 = rest.length := by simpa using hv3
    rw [hv3]
    have hend : rest.length = 0 → rows = takenL bs := fun h => by
      have : rest = [] := List.length_eq_zero_iff.1 h
      subst this
      rw [← hsum]; exact (List.append_nil _).symm
    refine ⟨fun hpos => ?_, fun hneg => out rfl (hls_one _) (by rw [g3.i 53 (by omega)]; exact x53) (by rw [g3.i 54 (by omega)]; exact x54) (by rw [g3.i 55 (by omega)]; exact x55) (by rw [g3.i 53 (by omega), g3.i 54 (by omega), g3.i 55 (by omega), g3.h 56 (by omega)]; exact hO) (hend (by omega))⟩
    have hne : rest ≠ [] := by rintro rfl; simp at hpos
    rw [g3.i 5 (by omega), g3.i 6 (by omega), g3.h 51 (by omega)]
    refine ⟨⟨_, 4096, _, rest, false, rfl, rfl, hI, by omega⟩, fun q4 g4 ⟨F4, ⟨p4, m4, H4, bs4, bad4, H4', e1, e2, hI4, e3, hI4', hv4⟩, hF4, hn4⟩ => ?_⟩
    simp only [List.cons.injEq, Value.int.injEq, true_and, and_true] at e1 e2 e3
    obtain ⟨e1, em⟩ := e1
    subst e1 em e2
    obtain ⟨e4, e5⟩ := hI.uniq hI4
    subst e4 e5
    rw [← e3] at hI4'
    rw [← hF4 trivial] at hv4
    have hI4' : InAt (q4.h 61) (.pointer (slP (q2.i 5) (q2.i 6))) (tx rest).2.1 (tx rest).2.2 := hI4'
    have hv4 : OwB (q4.h 62) 5 (.slice (slP (q4.i 61) (q4.i 62)) (q4.i 63).toNat (q4.i 64).toNat) (tx rest).1 := hv4
    have hn4 : -1 ≤ q4.i 61 ∧ 0 ≤ q4.i 62 ∧ 0 ≤ q4.i 63 ∧ 0 ≤ q4.i 64 := hn4.1
    rw [g4.i 5 (by omega), g4.i 6 (by omega), g3.i 5 (by omega), g3.i 6 (by omega)]
    refine ⟨⟨_, _, _, _, rfl, rfl, hI4'⟩, fun q5 g5 ⟨F5, ⟨p5, R5, bs5, bad5, e1, e2, hI5, hv5⟩, _⟩ => ?_⟩
    simp only [List.cons.injEq, and_true] at e1 e2
    subst e1 e2
    obtain ⟨_, e5⟩ := hI4'.uniq hI5
    subst e5
    have hv5 : q5.b 65 = (tx rest).2.2 := by simpa [bev_bvar] using hv5
    have hat := takenL_at hne
    have G : Agree 60 q2 q5 := g3.trans ((g4.trans (g5.mono (by omega))).mono (by omega))
    have G4 : Agree 65 q4 q5 := g5
    rw [hv5]
    refine ⟨fun hb => out rfl (hls_one _) (by rw [G.i 53 (by omega)]; exact x53) (by rw [G.i 54 (by omega)]; exact x54) (by rw [G.i 55 (by omega)]; exact x55) (by rw [G.i 53 (by omega), G.i 54 (by omega), G.i 55 (by omega), G.h 56 (by omega)]; exact hO) (by rw [← hsum, hat, if_pos hb, List.append_nil]), fun hb q6 g6 _ q7 g7 ⟨e7, hd7⟩ => ?_⟩
    have hb : (tx rest).2.2 = false := Bool.eq_false_iff.2 hb
    have G7 : Agree 60 q2 q7 := G.trans ((g6.trans (g7.mono (by omega))).mono (by omega))
    have G47 : Agree 65 q4 q7 := G4.trans ((g6.trans (g7.mono (by omega))).mono (by omega))
    have G46 : Agree 65 q4 q6 := G4.trans (g6.mono (by omega))
    have G6 : Agree 60 q2 q6 := G.trans (g6.mono (by omega))
    have hu : RowR (q6.h 62) none (.slice (slP (q7.i 61) (q7.i 62)) (q7.i 63).toNat (q7.i 64).toNat) (tx rest).1 := by
      rw [G46.h 62 (by omega), G47.i 61 (by omega), G47.i 62 (by omega), G47.i 63 (by omega), G47.i 64 (by omega)]
      exact RowR.of hv4.rd.w hn4.1 hn4.2.1
    rw [e7, G6.h 56 (by omega), G7.i 53 (by omega), G7.i 54 (by omega), G7.i 55 (by omega)]
    rw [G6.h 56 (by omega)] at hd7
    have hpre : ∃ xs, OwnsH ((q2.h 56).un (q6.h 62)) 46 1 (.slice (slP (q2.i 53) 0) (q2.i 54).toNat (q2.i 55).toNat) (q2.i 54).toNat xs := by
      obtain ⟨us, ho, _⟩ := hO
      rw [show (q2.i 54).toNat = rows.length by omega] at ho ⊢
      exact ⟨us, ho.mono (Hl.un_left _ _)⟩
    refine ⟨⟨hpre, x54, by unfold maxLen; omega, by omega⟩, fun q8 g8 ⟨a1, a2, happ, hk, _, hn⟩ => ?_⟩
    have G8 : Agree 60 q2 q8 := G7.trans (g8.mono (by omega))
    have G48 : Agree 65 q4 q8 := G47.trans (g8.mono (by omega))
    have hrows := rowsR_app hO x53 x54 hd7 hu a1 happ hk hn
    have e54 : q8.i 54 + 1 = q2.i 54 + 1 := by rw [G8.i 54 (by omega)]
    have hless := tx_less hne hb
    refine ⟨⟨(tx rest).2.1, rows ++ [(tx rest).1], ?_, a1, ?_, a2, ?_, ?_, ?_⟩, ?_⟩
    · show InAt (q8.h 61) (.pointer (slP (q8.i 5) (q8.i 6))) _ _
      rw [G48.h 61 (by omega), G8.i 5 (by omega), G8.i 6 (by omega), ← hb]; exact hI4'
    · show 0 ≤ q8.i 54 + 1
      omega
    · show RowsR (q8.h 68) (.slice (slP (q8.i 68) 0) (q8.i 54 + 1).toNat (q8.i 69).toNat) _
      rw [e54]; exact hrows
    · rw [List.append_assoc, ← hsum, hat, if_neg (by rw [hb]; simp)]; rfl
    · rw [List.length_append, List.length_singleton]; omega
    · show ((bs.length : Int) - (q8.i 54 + 1)).toNat < _
      omega
end Go.Proofs.YtomdimlnggpgbaaGreatDoor
namespace Go.Proofs.YtomdimlnggpgbaaGreatDoor
open Go Go.Sx Go.Pk
theorem sl_parts {u : Value} (h : ∃ a l c, u = .slice a l c) : Value.slice (slP (valP (some u) 0) (valP (some u) 1)) (valP (some u) 2).toNat (valP (some u) 3).toNat = u := by
  obtain ⟨a, n, c, rfl⟩ := h
  cases a with
  | none => simp [valP, slP]
  | some a =>
    obtain ⟨b, o, s⟩ := a
    cases s with
    | none => simp [valP, slP]
    | some s =>
      simp only [valP, Int.toNat_natCast]
      unfold slP
      rw [if_neg (by omega), if_neg (by omega), Int.toNat_natCast, unp_pair, show (-(-(b : Int) - 2) - 2).toNat = b by omega]
theorem RdW.parts {R : Hl} {u : Value} {r : List Int} (h : RdW R u r) : (∃ a l c, u = .slice a l c) ∧ valP (some u) 2 = r.length ∧
    (valP (some u) 0 = -1 ∨ valP (some u) 2 = 0 ∨ 0 ≤ valP (some u) 0 ∧ 0 ≤ valP (some u) 1 ∧ cellBytes R (valP (some u) 0).toNat (valP (some u) 1).toNat (valP (some u) 2).toNat = true) ∧
    (if valP (some u) 0 = -1 then ByteArray.empty else bytesOf (cellInts R (valP (some u) 0).toNat (valP (some u) 1).toNat (valP (some u) 2).toNat)) = bytesOf r := by
  obtain ⟨x, y, c, rfl, hy, h⟩ := h
  have h2 : valP (some (.slice (slP x y) r.length c)) 2 = r.length := by
    cases hs : slP x y with
    | none => rfl
    | some a => obtain ⟨b, o, s⟩ := a; cases s <;> rfl
  refine ⟨⟨_, _, _, rfl⟩, h2, ?_⟩
  rw [h2]
  rcases h with h | ⟨hx, hc⟩
  · subst h
    refine ⟨Or.inr (Or.inl rfl), ?_⟩
    show (if _ then ByteArray.empty else bytesOf (cellInts R _ _ 0)) = ByteArray.empty
    split <;> rfl
  · rw [sl0 (by omega), sl1 hx hy, Int.toNat_natCast]
    refine ⟨Or.inr (Or.inr ⟨hx, hy, cells_bytes hc (Nat.le_refl _)⟩), ?_⟩
    rw [if_neg (by omega), cells_ints hc]
def RowsB (R RA : Hl) (v : Value) (rows : List (List Int)) : Prop := ∃ (us : List Value) (x y : Int) (c : Nat), v = .slice (slP x y) us.length c ∧ 0 ≤ y ∧ us.length = rows.length ∧ (∀ (j : Nat) (u : Value), us[j]? = some u → 0 ≤ x ∧ R.cell x.toNat (y.toNat + j) = some u) ∧ (∀ (j : Nat) (u : Value) (r : List Int), us[j]? = some u → rows[j]? = some r → RdW RA u r)
theorem RowsB.uniq {R RA : Hl} {v : Value} {a b : List (List Int)} (h1 : RowsB R RA v a) (h2 : RowsB R RA v b) : a = b := by
  obtain ⟨us, x, y, c, hv, hy, hl, hc, hr⟩ := h1
  obtain ⟨us', x', y', c', hv', hy', hl', hc', hr'⟩ := h2
  rw [hv] at hv'
  simp only [Value.slice.injEq] at hv'
  obtain ⟨ep, el, _⟩ := hv'
  apply List.ext_getElem (by omega)
  intro j hj hj'
  have hu : us[j]? = some us[j] := List.getElem?_eq_getElem (by omega)
  have hu' : us'[j]? = some us'[j] := List.getElem?_eq_getElem (by omega)
  obtain ⟨hx, e1⟩ := hc j _ hu
  obtain ⟨hx', e2⟩ := hc' j _ hu'
  obtain ⟨exx, eyy⟩ := slP_inj (by omega) hy (by omega) hy' ep
  have eyy := eyy hx
  subst exx; subst eyy
  rw [e1] at e2
  have e2 : us[j] = us'[j] := by simpa using e2
  have h1 := hr j _ _ hu (List.getElem?_eq_getElem hj)
  have h2 := hr' j _ _ hu' (List.getElem?_eq_getElem hj')
  rw [e2] at h1
  exact h1.uniq h2
theorem RowsB.at {R RA : Hl} {x y : Int} {l c : Nat} {rows : List (List Int)} (h : RowsB R RA (.slice (slP x y) l c) rows) (hy : 0 ≤ y) : l = rows.length ∧ ∀ (i : Nat) r, rows[i]? = some r → 0 ≤ x ∧ ∃ u, R.cell x.toNat (y.toNat + i) = some u ∧ RdW RA u r := by
  obtain ⟨us, x', y', c', hv, hy', hl, hc, hr⟩ := h
  simp only [Value.slice.injEq] at hv
  obtain ⟨ep, el, _⟩ := hv
  refine ⟨by omega, fun i r hi => ?_⟩
  have hi' := (List.getElem?_eq_some_iff.1 hi).1
  have hu : us[i]? = some us[i] := List.getElem?_eq_getElem (by omega)
  obtain ⟨hx, e⟩ := hc i _ hu
  obtain ⟨rfl, rfl⟩ := slP_eqS hx hy' hy ep
  exact ⟨hx, _, e, hr i _ r hu hi⟩
theorem RdW.slice {R : Hl} {u : Value} {r : List Int} (h : RdW R u r) : ∃ (x y : Int) (c : Nat), u = .slice (slP x y) r.length c ∧ 0 ≤ y := by
  obtain ⟨x, y, c, e, hy, _⟩ := h
  exact ⟨x, y, c, e, hy⟩
def packB (rows : List (List Int)) : List Int := (rows.map textBytes).flatten
def packOk (rows : List (List Int)) : Prop := ∀ r ∈ rows, r.length ≤ 4096
theorem packB_take {rows : List (List Int)} {k : Nat} {r : List Int} (h : rows[k]? = some r) : packB (rows.take (k + 1)) = packB (rows.take k) ++ textBytes r := by
  unfold packB
  rw [List.take_add_one, h, Option.toList_some, List.map_append, List.flatten_append]
  simp
def packedS : Sx.Spec where
  fn := 86
  own := []
  rd := [0, 3000000]
  res := [.one .sl, .one (.int .i64)]
  pre := fun xs Hs Rs => ∃ v R RA rows, xs = [v] ∧ Rs = [R, RA] ∧ RowsB R RA v rows ∧ rows.length ≤ 1000000 ∧ ∀ r ∈ rows, 0 ≤ r.length
  post := fun xs Hs Rs w Hs' F => ∃ v R RA rows u e, xs = [v] ∧ Rs = [R, RA] ∧ RowsB R RA v rows ∧ w = .tuple #[u, .int .i64 e] ∧ (packOk rows → e = 0 ∧ OwB F 5 u (packB rows)) ∧ (¬ packOk rows → e = 3)
def pkΓ : List Sx.Spec := [oTextS, oEndS]
theorem pkΓ_ok : ∀ t ∈ pkΓ, t.OK Tryz.prog := fun t ht => by
  simp only [pkΓ, List.mem_cons, List.mem_nil_iff, or_false] at ht
  rcases ht with rfl | rfl
  · exact oTextS_ok
  · exact oEndS_ok
def packedNd : Nd := .and (.e (.le (.lit 0) (.var 2))) (.and (.inv 0 [⟨53, 0, .int .i64 (.lit (-1))⟩, ⟨54, 0, .int .i64 (.lit 0)⟩, ⟨55, 0, .int .i64 (.lit 0)⟩, ⟨50, 0, .int .i64 (.lit 0)⟩] [(56, none)]) (.havoc 0 0 6 (.and (.imp (.lt (.var 50) (.var 2)) (.and (.e (.le (.lit 0) (.var 0))) (.and (.e (.le (.lit 0) (.var 1))) (.and (.e (.le (.lit 0) (.var 50))) (.and (.e (.his 4 (.var 0) (.add (.var 1) (.var 50)) 0 .slice)) (.ext (.alloc 60) (.and (.pre (.call 0 61 [.sv (.one (.hptr (.var 60) (.lit 0))), .sv (.one (.sl (.hP 4 (.var 0) (.add (.var 1) (.var 50)) 0 0) (.hP 4 (.var 0) (.add (.var 1) (.var 50)) 0 1) (.hP 4 (.var 0) (.add (.var 1) (.var 50)) 0 2) (.hP 4 (.var 0) (.add (.var 1) (.var 50)) 0 3)))] [.blk 60 [.sl (.lit (-1)) (.lit 0) (.lit 0) (.lit 0), .bool .ff] 208] [.ro 5 [] true])) (.ext (.call 0 61 [.sv (.one (.hptr (.var 60) (.lit 0))), .sv (.one (.sl (.hP 4 (.var 0) (.add (.var 1) (.var 50)) 0 0) (.hP 4 (.var 0) (.add (.var 1) (.var 50)) 0 1) (.hP 4 (.var 0) (.add (.var 1) (.var 50)) 0 2) (.hP 4 (.var 0) (.add (.var 1) (.var 50)) 0 3)))] [.blk 60 [.sl (.lit (-1)) (.lit 0) (.lit 0) (.lit 0), .bool .ff] 208] [.ro 5 [] true]) (.and (.pre (.call 1 63 [.sv (.one (.hptr (.var 60) (.lit 0)))] [] [.hp 61 [] [.var 60] []])) (.ext (.call 1 63 [.sv (.one (.hptr (.var 60) (.lit 0)))] [] [.hp 61 [] [.var 60] []]) (.and (.imp (.not (.eq (.var 67) (.lit 0))) (.post [.ro 4 [.var 0] false, .ro 5 [] true, .hp 56 [] [.var 53] [], .hp 61 [] [.var 60] [], .hp 63 [] [.var 63] []] (.tup [.one (.sl (.lit (-1)) (.lit 0) (.lit 0) (.lit 0)), .one (.int .i64 (.var 67))]))) (.imp (.eq (.var 67) (.lit 0)) (.and (.pre (.app 68 5 1 1 (.sl (.var 53) (.lit 0) (.var 54) (.var 55)) (.var 54) (.hp 56 [] [.var 53] []) (.seg 63 (.var 63) (.var 64) (.var 65)))) (.ext (.app 68 5 1 1 (.sl (.var 53) (.lit 0) (.var 54) (.var 55)) (.var 54) (.hp 56 [] [.var 53] []) (.seg 63 (.var 63) (.var 64) (.var 65))) (.back 0 0 [⟨53, 0, .int .i64 (.var 68)⟩, ⟨54, 0, .int .i64 (.add (.var 54) (.var 65))⟩, ⟨55, 0, .int .i64 (.var 69)⟩, ⟨50, 0, .int .i64 (.wrap .i64 (.add (.var 50) (.lit 1)))⟩] [(56, some 68)]))))))))))))))) (.imp (.not (.lt (.var 50) (.var 2))) (.post [.ro 4 [.var 0] false, .ro 5 [] true, .hp 56 [] [.var 53] []] (.tup [.one (.sl (.var 53) (.lit 0) (.var 54) (.var 55)), .one (.int .i64 (.lit 0))]))))))
def packedW : Walk Tryz.prog pkΓ packedS.fn where
  Λ := fun p => if lp0 p then some ⟨0, [(4, .sv (.one (.sl (.var 53) (.lit 0) (.var 54) (.var 55)))), (12, TI .i64 (.var 50))], [(2, .hp 56 [] [.var 53] [])], 60⟩ else none
  args := [.sv (.one (.sl (.var 0) (.var 1) (.var 2) (.var 3)))]
  mem := [.ro 4 [.var 0] false, .ro 5 [] true]
  nv := 6
  nd := packedNd
  ok := by kernel_rfl
theorem pkg0 : pkΓ[0]? = some oTextS := rfl
theorem pkg1 : pkΓ[1]? = some oEndS := rfl
theorem pkr0 : oTextS.res = [] := rfl
theorem pkr1 : oEndS.res = [.one .sl, .one (.int .i64)] := rfl
theorem rsi (n : Nat) : (cpRoots n [Cp.one .sl, Cp.one (.int .i64)] ≠ []) = True := by simp [cpRoots, Cp.roots, Ck.root]
theorem packedS_ok : packedS.OK Tryz.prog := by
  refine Spec.of_fn (Γ := pkΓ) pkΓ_ok ?_
  rintro xs Hs Rs hl1 hl2 ⟨v, R, RA, rows, rfl, rfl, hB, hlen, hrow⟩
  have e0 : Hs = [] := List.length_eq_zero_iff.1 hl1
  subst e0
  obtain ⟨us, x, y, c, rfl, hy, hul, hcell, hrd⟩ := id hB
  refine ⟨packedW, envI [x, y, us.length, c] false [Hl.none, Hl.none, Hl.none, Hl.none, R, RA], fun _ q => ∃ k : Nat, q.i 50 = k ∧ k ≤ rows.length ∧ (∀ r ∈ rows.take k, r.length ≤ 4096) ∧ -1 ≤ q.i 53 ∧ q.i 54 = (packB (rows.take k)).length ∧ 0 ≤ q.i 55 ∧ OwB (q.h 56) 5 (.slice (slP (q.i 53) 0) (q.i 54).toNat (q.i 55).toNat) (packB (rows.take k)) ∧ (packB (rows.take k)).length ≤ 4106 * k, fun _ q => (rows.length - q.i 50).toNat, ?_, ⟨?_, ?_, ?_, ?_⟩, (fun _ h => nomatch h), ?_⟩
  · show [Value.slice (slP x y) ((us.length : Int)).toNat ((c : Int)).toNat] = _
    rw [Int.toNat_natCast, Int.toNat_natCast]
  · intro r hr ho; simp [packedW] at hr; rcases hr with rfl | rfl <;> cases ho
  · intro r hr ho; simp [packedW] at hr
    rcases hr with rfl | rfl
    · exact ⟨R, by simp, Hl.le_refl _⟩
    · exact ⟨RA, by simp, Hl.le_refl _⟩
  · simp [packedW, Res.own]
  · intro r hr; simp [packedW] at hr; rcases hr with rfl | rfl <;> trivial
  · show Nd.holds _ _ _ packedNd
    generalize hρ : envI [x, y, us.length, c] false [Hl.none, Hl.none, Hl.none, Hl.none, R, RA] = ρ
    have v0 : ρ.i 0 = x := by rw [← hρ]; rfl
    have v1 : ρ.i 1 = y := by rw [← hρ]; rfl
    have v2 : ρ.i 2 = us.length := by rw [← hρ]; rfl
    have v3 : ρ.i 3 = c := by rw [← hρ]; rfl
    have w4 : ρ.h 4 = R := by rw [← hρ]; rfl
    have w5 : ρ.h 5 = RA := by rw [← hρ]; rfl
    clear hρ
    unfold packedNd
    simp only [Nd.holds, X.pre, X.rel, X.n, Src.ok, Src.len, Src.vals, true_and, and_true, if_true, Nat.mul_one, Nat.add_zero, Nat.reduceAdd, List.length_cons, List.length_nil, bT_tt, bT_ff, bT_bvar, bT_not, bT_and, bT_or, bT_ite, bT_lt, bT_le, bT_eq, bT_beq, bT_seq, bT_hB, bT_his, bT_hby, bT_hism, bT_hks, iev_lit, iev_var, iev_add, iev_sub, iev_mul, iev_wrap, iev_ite, iev_hI, iev_hP, iev_hmlen, sev_ite, sev_slit, sev_sof, sev_svar, TV.ev, SV.ev, CV.ev, List.map_cons, List.map_nil, Res.hl, cpTV, Cp.sv, Ck.cv, cpSVs, Cp.len, Ck.len, newHs_zero, newHs_one, roots_ne, pkg0, pkg1, pkr0, pkr1, rsi]
    rw [v2]
    refine ⟨by omega, ⟨0, rfl, Nat.zero_le _, (by simp), Int.le_refl _, rfl, Int.le_refl _, ⟨rfl, Or.inl ⟨rfl, rfl⟩⟩, by simp [packB]⟩, fun q g ⟨k, ek, hk, h4k, x53, y54, x55, hO, hle⟩ => ?_⟩
    rw [g.i 0 (by omega), g.i 1 (by omega), g.i 2 (by omega), g.h 4 (by omega), v0, v1, v2, w4, ek]
    refine ⟨fun hlt => ?_, fun hge => ?_⟩
    · have hkr : k < rows.length := by omega
      have hr : rows[k]? = some rows[k] := List.getElem?_eq_getElem hkr
      have hu : us[k]? = some us[k] := List.getElem?_eq_getElem (by omega)
      obtain ⟨hx0, hc⟩ := hcell k _ hu
      have hRr := hrd k _ _ hu hr
      have hsl : ∃ a l c, us[k] = Value.slice a l c := (RdW.parts hRr).1
      have hck : R.cell x.toNat (y + (k : Int)).toNat = some us[k] := by rw [show (y + (k : Int)).toNat = y.toNat + k by omega]; exact hc
      refine ⟨hx0, hy, by omega, by rw [hck]; obtain ⟨_, _, _, e⟩ := hsl; rw [e]; rfl, fun q1 g1 p60 => ?_⟩
      have G1 : Agree 6 ρ q1 := g.trans (g1.mono (by omega))
      rw [G1.h 4 (by omega), G1.h 5 (by omega), G1.i 0 (by omega), G1.i 1 (by omega), g1.i 50 (by omega), v0, v1, w4, w5, ek, hck, sl_parts hsl, slP_pos p60]
      refine ⟨⟨_, _, _, RA, [], false, rows[k], rfl, rfl, rfl, OutAt.new _, hRr, by simp, hrow _ (List.getElem_mem _)⟩, fun q2 g2 ⟨F2, ⟨p2, u2, H2, R2, bs2, lg2, b2, H2', e1, e2, e3, hO2, hR2, e4, hO2'⟩, _⟩ => ?_⟩
      simp only [List.cons.injEq, and_true] at e1 e2 e3 e4
      obtain ⟨e1, e1'⟩ := e1
      subst e1 e1' e2 e3
      obtain ⟨eb, el⟩ := (OutAt.new _).uniq hO2
      subst eb el
      obtain rfl := hRr.uniq hR2
      rw [← e4] at hO2'
      have hOT : outText [] false rows[k] = if 4096 < rows[k].length then ([], true) else (textBytes rows[k], false) := rfl
      rw [hOT] at hO2'
      have htl : rows[k].length ≤ 4096 → (textBytes rows[k]).length ≤ 4106 := fun h => by
        unfold textBytes
        have := num_bound (z := rows[k].length) (by omega)
        rw [List.length_append]; omega
      have hbnd : (if 4096 < rows[k].length then (([] : List Int), true) else (textBytes rows[k], false)).1.length ≤ 1000000 := by
        split
        · simp
        · have := htl (by omega); show (textBytes rows[k]).length ≤ _; omega
      rw [g2.i 60 (by omega), slP_pos p60]
      refine ⟨⟨_, _, _, _, rfl, rfl, hO2', hbnd⟩, fun q3 g3 ⟨F3, ⟨p3, R3, bs3, lg3, u3, e1, e2, hO3, hv3, hw3⟩, hF3, hn3⟩ => ?_⟩
      simp only [List.cons.injEq, and_true] at e1 e2
      subst e1 e2
      obtain ⟨eb, el⟩ := hO2'.uniq hO3
      subst eb el
      simp only [Value.tuple.injEq, Array.mk.injEq, List.cons.injEq, Value.int.injEq, true_and, and_true] at hv3
      obtain ⟨eu, e67⟩ := hv3
      rw [← eu, ← hF3 trivial] at hw3
      have G3 : Agree 60 q q3 := g1.trans ((g2.trans (g3.mono (by omega))).mono (by omega))
      have hn3 : -1 ≤ q3.i 63 ∧ 0 ≤ q3.i 64 ∧ 0 ≤ q3.i 65 ∧ 0 ≤ q3.i 66 := hn3.1
      by_cases hbig : 4096 < rows[k].length
      · rw [if_pos hbig] at e67
        have e67 : q3.i 67 = 3 := e67
        refine ⟨fun _ _ => ?_, fun h0 => (by omega)⟩
        refine ⟨[], [], rfl, rfl, ⟨⟨fun j => [-1, 0, 0, 0, 3].getD j 0, fun _ => false, fun _ => .empty, fun _ => .tuple #[], fun _ => Hl.none⟩, ?_, ⟨Int.le_refl _, Int.le_refl _, Int.le_refl _, Int.le_refl _⟩, trivial, trivial⟩, _, R, RA, rows, .slice none 0 0, 3, rfl, rfl, hB, ?_, fun hok => ?_, fun _ => rfl⟩
        · show Value.tuple #[.slice (slP (-1) 0) 0 0, .int .i64 (q3.i 67)] = _
          rw [e67]; rfl
        · show Value.tuple #[.slice (slP (-1) 0) 0 0, .int .i64 (q3.i 67)] = _
          rw [e67]; rfl
        · have := hok _ (List.getElem_mem hkr); omega
      · rw [if_neg hbig] at e67 hw3
        have hl4 := htl (by omega)
        have hE : endR (textBytes rows[k]) false = (textBytes rows[k], 0) := by unfold endR; rw [if_neg (by simp; omega)]
        have e67 : q3.i 67 = (endR (textBytes rows[k]) false).2 := e67
        have hw3 : OwB (q3.h 63) 5 (.slice (slP (q3.i 63) (q3.i 64)) (q3.i 65).toNat (q3.i 66).toNat) (endR (textBytes rows[k]) false).1 := hw3
        rw [hE] at e67 hw3
        refine ⟨fun h => absurd e67 h, fun _ => ?_⟩
        have hat := hw3.rd.at hn3.1 hn3.2.1 hn3.2.2.1
        have h65 : q3.i 65 = (textBytes rows[k]).length := hat.1
        obtain ⟨hok, hseg⟩ := seg_of (R := q3.h 63) (x := q3.i 63) (y := q3.i 64) (l := q3.i 65) (bs := textBytes rows[k]) h65 hn3.2.1 (hat.2.imp (·.2) id)
        rw [G3.i 53 (by omega), G3.i 54 (by omega), G3.i 55 (by omega), G3.h 56 (by omega)]
        have hOw : OwnsH (q.h 56) 5 1 (.slice (slP (q.i 53) 0) (q.i 54).toNat (q.i 55).toNat) (q.i 54).toNat (bys (packB (rows.take k))) := by
          have := hO
          unfold OwB at this
          rw [show (q.i 54).toNat = (packB (rows.take k)).length by omega] at this ⊢
          exact this
        refine ⟨⟨⟨_, hOw⟩, by omega, hok, by unfold maxLen; omega, by omega⟩, fun q4 g4 ⟨a1, a2, happ, _⟩ => ?_⟩
        have h2 := happ _ hOw
        rw [hseg] at h2
        have e65 : q4.i 65 = q3.i 65 := g4.i 65 (by omega)
        have e54 : q4.i 54 = q.i 54 := by rw [g4.i 54 (by omega), G3.i 54 (by omega)]
        have e50 : q4.i 50 = k := by rw [g4.i 50 (by omega), G3.i 50 (by omega), ek]
        have hpk := packB_take hr
        have hpl : (packB (rows.take (k + 1))).length = (packB (rows.take k)).length + (textBytes rows[k]).length := by rw [hpk, List.length_append]
        refine ⟨⟨k + 1, ?_, by omega, fun r hrm => ?_, a1, ?_, a2, ?_, by omega⟩, ?_⟩
        · show IntKind.i64.wrap (q4.i 50 + 1) = _
          rw [e50, IntWalk.i64_in _ (by omega)]; omega
        · rw [List.take_add_one, hr, Option.toList_some] at hrm
          rcases List.mem_append.1 hrm with h | h
          · exact h4k r h
          · rw [List.mem_singleton] at h; subst h; omega
        · show q4.i 54 + q4.i 65 = _
          rw [e54, e65]; omega
        · show OwB (q4.h 68) _ (.slice (slP (q4.i 68) 0) (q4.i 54 + q4.i 65).toNat (q4.i 69).toNat) _
          unfold OwB
          rw [e54, e65, hpk, bys_append, List.length_append]
          have ea : (q.i 54).toNat + (q3.i 65).toNat = (packB (rows.take k)).length + (textBytes rows[k]).length := by omega
          have eb : (q.i 54 + q3.i 65).toNat = (packB (rows.take k)).length + (textBytes rows[k]).length := by omega
          rw [ea] at h2
          rw [eb]
          exact h2
        · show ((rows.length : Int) - IntKind.i64.wrap (q4.i 50 + 1)).toNat < _
          rw [e50, IntWalk.i64_in _ (by omega)]; omega
    · have hke : k = rows.length := by omega
      subst hke
      rw [List.take_length] at h4k y54 hO
      intro _
      refine ⟨[], [2], rfl, rfl, ⟨⟨fun j => [q.i 53, 0, q.i 54, q.i 55, 0].getD j 0, fun _ => false, fun _ => .empty, fun _ => .tuple #[], fun _ => Hl.none⟩, rfl, ⟨x53, Int.le_refl _, by show 0 ≤ q.i 54; omega, x55⟩, trivial, trivial⟩, _, R, RA, rows, .slice (slP (q.i 53) 0) (q.i 54).toNat (q.i 55).toNat, 0, rfl, rfl, hB, rfl, fun _ => ⟨rfl, ?_⟩, fun hno => absurd h4k hno⟩
      show OwB (hls [q.h 56]) _ _ _
      rw [hls_one]; exact hO
end Go.Proofs.YtomdimlnggpgbaaGreatDoor
namespace Go.Proofs.YtomdimlnggpgbaaGreatDoor
open Go Go.Sx Go.Pk Go.RowKit
def gLost : Nat := 0
def gFull : Nat := 1
def gSpent : Nat := 2
def isG (g : Nat) : Prop := g = gLost ∨ g = gFull ∨ g = gSpent
def gv (a : Nat → Addr) (g : Nat) : Value := .iface 299 (.pointer (some (a g)))
structure Gl (R : Hl) (a : Nat → Addr) : Prop where
  cell : ∀ g, isG g → R.cell g 0 = some (gv a g)
  blk : ∀ g, isG g → ∃ c t, R (a g).block = some (.cells c t (0, 0))
  ne : ∀ g h, isG g → isG h → g ≠ h → a g ≠ a h
theorem Gl.same {R : Hl} {a b : Nat → Addr} (h : Gl R a) (k : Gl R b) {g : Nat} (hg : isG g) : a g = b g := by
  have := (h.cell g hg).symm.trans (k.cell g hg)
  simpa [gv] using this
def gi (c : Int) : Nat := if c = 4 then gFull else if c = 14 then gSpent else gLost
theorem gi_is (c : Int) : isG (gi c) := by
  unfold gi isG
  split
  · exact Or.inr (Or.inl rfl)
  · split
    · exact Or.inr (Or.inr rfl)
    · exact Or.inl rfl
def ErrAt (a : Nat → Addr) (v : Value) (c : Int) : Prop := (c = 0 ∧ v = .nilIface) ∨ (c ≠ 0 ∧ ∃ s : ByteArray, v = .iface 156 (.agg #[.string s, gv a (gi c)]))
theorem ErrAt.same {R : Hl} {a b : Nat → Addr} (h : Gl R a) (k : Gl R b) {v : Value} {c d : Int} (hc : ErrAt a v c) (hd : ErrAt b v d) : (c = 0 ↔ d = 0) ∧ (c ≠ 0 → gi c = gi d) := by
  rcases hc with ⟨hc, e⟩ | ⟨hc, s, e⟩ <;> rcases hd with ⟨hd, e'⟩ | ⟨hd, s', e'⟩ <;> rw [e] at e'
  · exact ⟨⟨fun _ => hd, fun _ => hc⟩, fun h => absurd hc h⟩
  · cases e'
  · cases e'
  · refine ⟨⟨fun h => absurd h hc, fun h => absurd h hd⟩, fun _ => ?_⟩
    simp only [Value.iface.injEq, Value.agg.injEq, Array.mk.injEq, List.cons.injEq, Value.string.injEq, gv, Value.pointer.injEq, Option.some.injEq, true_and, and_true] at e'
    rw [← h.same k (gi_is d)] at e'
    exact Classical.byContradiction fun hne => h.ne _ _ (gi_is c) (gi_is d) hne e'.2
open Classical in
noncomputable def isS : Sx.Spec where
  fn := 87
  own := []
  rd := [2000000]
  res := [.one .bool]
  pre := fun xs Hs Rs => ∃ e t R a c g, xs = [e, t] ∧ Rs = [R] ∧ Gl R a ∧ ErrAt a e c ∧ isG g ∧ t = gv a g
  post := fun xs Hs Rs v Hs' F => ∃ e t R, xs = [e, t] ∧ Rs = [R] ∧ ∀ a c g, Gl R a → ErrAt a e c → isG g → t = gv a g → v = .bool (decide (c ≠ 0 ∧ gi c = g))
theorem isS_ok : isS.OK Tryz.prog := by
  refine calls_spec rfl fun w xs Rs hs ⟨e, t, R, a, c, g, e1, e2, hG, hE, hg, ht⟩ => ?_
  subst e1 e2 ht
  refine ⟨.bool (decide (c ≠ 0 ∧ gi c = g)), ⟨⟨fun _ => 0, fun _ => decide (c ≠ 0 ∧ gi c = g), fun _ => .empty, fun _ => .tuple #[], fun _ => Hl.none⟩, rfl, trivial, trivial⟩, ?_, _, _, R, rfl, rfl, fun a' c' g' hG' hE' hg' ht' => ?_⟩
  · have hR := hs R (by simp)
    obtain ⟨cg, tg, hbg⟩ := hG.blk g hg
    rcases hE with ⟨rfl, rfl⟩ | ⟨hc, s, rfl⟩
    · refine (is_nil (a g) w).mono fun e w' ⟨h1, h2⟩ => ⟨(by rw [h1]; simp), (by rw [h2]; exact Below.refl _ _)⟩
    · by_cases hgc : gi c = g
      · subst hgc
        refine (is_wrap_same s (a (gi c)) w).mono fun e w' ⟨h1, h2⟩ => ⟨(by rw [h1]; simp [hc]), h2⟩
      · obtain ⟨cc, tc, hbc⟩ := hG.blk (gi c) (gi_is c)
        refine (is_wrap_other s (a g) (a (gi c)) cc cg tc tg w (hG.ne _ _ (gi_is c) hg hgc) (hR _ _ hbc) (hR _ _ hbg)).mono fun e w' ⟨h1, h2⟩ => ⟨(by rw [h1]; simp [hgc]), h2⟩
  · obtain ⟨s1, s2⟩ := hE.same hG hG' hE'
    have hgg : g = g' := by
      have : a g = a' g' := by simpa [gv] using ht'
      rw [← hG.same hG' hg'] at this
      exact Classical.byContradiction fun hne => hG.ne _ _ hg hg' hne this
    subst hgg
    congr 1
    by_cases h0 : c = 0
    · have := s1.1 h0
      simp [h0, this]
    · have h0' : c' ≠ 0 := fun h => h0 (s1.2 h)
      rw [← s2 h0]
      simp [h0, h0']
def wrappedS : Sx.Spec where
  fn := 52
  own := []
  rd := [2000000]
  res := [.one .any]
  pre := fun xs Hs Rs => ∃ (s : ByteArray) (c : Int) (R : Hl) (a : Nat → Addr), xs = [.string s, .int .i64 c] ∧ Rs = [R] ∧ Gl R a
  post := fun xs Hs Rs v Hs' F => ∃ (s : ByteArray) (c : Int) (R : Hl), xs = [.string s, .int .i64 c] ∧ Rs = [R] ∧ ∀ a, Gl R a → ErrAt a v c
set_option maxRecDepth 20000 in
theorem wrapped_walk (s : ByteArray) (c : Int) (a : Nat → Addr) (w : World) (h0 : w.cell? ⟨gLost, 0, none⟩ = some (gv a gLost)) (h1 : w.cell? ⟨gFull, 0, none⟩ = some (gv a gFull)) (h2 : w.cell? ⟨gSpent, 0, none⟩ = some (gv a gSpent)) :
    Calls Tryz.prog 52 #[.string s, .int .i64 c] w fun e w' => e = .returned (if c = 0 then .nilIface else .iface 156 (.agg #[.string s, if c = 4 then gv a gFull else if c = 14 then gv a gSpent else gv a gLost])) ∧ w' = w := by
  unfold gv gLost at h0
  unfold gv gFull at h1
  unfold gv gSpent at h2
  by_cases c0 : c = 0
  · subst c0
    go_enter Tryz.func52, Tryz.ntmps52
    go_wp2
    go_ret
    exact ⟨rfl, rfl⟩
  · rw [if_neg c0]
    by_cases c4 : c = 4
    · subst c4
      go_enter Tryz.func52, Tryz.ntmps52
      go_wp2
      go_ret
      exact ⟨rfl, rfl⟩
    · rw [if_neg c4]
      by_cases c14 : c = 14
      · subst c14
        go_enter Tryz.func52, Tryz.ntmps52
        go_wp2
        go_ret
        exact ⟨rfl, rfl⟩
      · rw [if_neg c14]
        go_enter Tryz.func52, Tryz.ntmps52
        go_wp2
        go_ret
        exact ⟨rfl, rfl⟩
def wrapV (a : Nat → Addr) (s : ByteArray) (c : Int) : Value := if c = 0 then .nilIface else .iface 156 (.agg #[.string s, if c = 4 then gv a gFull else if c = 14 then gv a gSpent else gv a gLost])
theorem wrappedS_ok : wrappedS.OK Tryz.prog := by
  refine calls_spec rfl fun w xs Rs hs ⟨s, c, R, a, e1, e2, hG⟩ => ?_
  subst e1 e2
  have hR := hs R (by simp)
  have hv := wrapped_walk s c a w (Hl.sub_cell hR (hG.cell _ (Or.inl rfl))) (Hl.sub_cell hR (hG.cell _ (Or.inr (Or.inl rfl)))) (Hl.sub_cell hR (hG.cell _ (Or.inr (Or.inr rfl))))
  refine ⟨wrapV a s c, ⟨⟨fun _ => 0, fun _ => false, fun _ => .empty, fun _ => wrapV a s c, fun _ => Hl.none⟩, rfl, trivial, trivial⟩, hv.mono fun e w' ⟨h1, h2⟩ => ⟨h1, (by rw [h2]; exact Below.refl _ _)⟩, s, c, R, rfl, rfl, fun a' hG' => ?_⟩
  unfold wrapV
  by_cases c0 : c = 0
  · rw [if_pos c0]; exact Or.inl ⟨c0, rfl⟩
  · rw [if_neg c0]
    refine Or.inr ⟨c0, s, ?_⟩
    congr 3
    unfold gi
    split
    · unfold gv; rw [hG.same hG' (Or.inr (Or.inl rfl))]
    · split
      · unfold gv; rw [hG.same hG' (Or.inr (Or.inr rfl))]
      · unfold gv; rw [hG.same hG' (Or.inl rfl)]
def numC (c : Int) : Int := if c = 0 then 0 else if gi c = gFull then 4 else if gi c = gSpent then 14 else 5
def numberE : Sx.Spec where
  fn := 88
  own := []
  rd := [2000000]
  res := [.one (.int .i64)]
  pre := fun xs Hs Rs => ∃ e R a c, xs = [e] ∧ Rs = [R] ∧ Gl R a ∧ ErrAt a e c
  post := fun xs Hs Rs v Hs' F => ∃ e R, xs = [e] ∧ Rs = [R] ∧ ∀ a c, Gl R a → ErrAt a e c → v = .int .i64 (numC c)
noncomputable def nuΓ : List Sx.Spec := [isS]
theorem nuΓ_ok : ∀ t ∈ nuΓ, t.OK Tryz.prog := fun t ht => by
  simp only [nuΓ, List.mem_cons, List.mem_nil_iff, or_false] at ht
  rw [ht]; exact isS_ok
def numbNd : Nd := .and (.e (.le (.vint 0) (.lit 1))) (.and (.imp (.eq (.vint 0) (.lit 0)) (.post [.ro 1 [.lit 0, .lit 1, .lit 2] false] (.sv (.one (.int .i64 (.lit 0)))))) (.imp (.not (.eq (.vint 0) (.lit 0))) (.and (.e (.his 1 (.lit 1) (.lit 0) 0 .any)) (.and (.pre (.call 0 2 [.sv (.one (.vr 0)), .sv (.one (.hv 1 (.lit 1) (.lit 0) 0))] [] [.ro 1 [.lit 0, .lit 1, .lit 2] false])) (.ext (.call 0 2 [.sv (.one (.vr 0)), .sv (.one (.hv 1 (.lit 1) (.lit 0) 0))] [] [.ro 1 [.lit 0, .lit 1, .lit 2] false]) (.and (.imp (.bvar 2) (.post [.ro 1 [.lit 0, .lit 1, .lit 2] false] (.sv (.one (.int .i64 (.lit 4)))))) (.imp (.not (.bvar 2)) (.and (.e (.his 1 (.lit 2) (.lit 0) 0 .any)) (.and (.pre (.call 0 3 [.sv (.one (.vr 0)), .sv (.one (.hv 1 (.lit 2) (.lit 0) 0))] [] [.ro 1 [.lit 0, .lit 1, .lit 2] false])) (.ext (.call 0 3 [.sv (.one (.vr 0)), .sv (.one (.hv 1 (.lit 2) (.lit 0) 0))] [] [.ro 1 [.lit 0, .lit 1, .lit 2] false]) (.and (.imp (.bvar 3) (.post [.ro 1 [.lit 0, .lit 1, .lit 2] false] (.sv (.one (.int .i64 (.lit 14)))))) (.imp (.not (.bvar 3)) (.post [.ro 1 [.lit 0, .lit 1, .lit 2] false] (.sv (.one (.int .i64 (.lit 5)))))))))))))))))
noncomputable def numbW : Walk Tryz.prog nuΓ numberE.fn where
  Λ := noLoops
  args := [.sv (.one (.vr 0))]
  mem := [.ro 1 [.lit 0, .lit 1, .lit 2] false]
  nv := 2
  nd := numbNd
  ok := by kernel_rfl
theorem nug0 : nuΓ[0]? = some isS := rfl
theorem nur0 : isS.res = [.one .bool] := rfl
theorem numC_same {R : Hl} {a b : Nat → Addr} (h : Gl R a) (k : Gl R b) {v : Value} {c d : Int} (hc : ErrAt a v c) (hd : ErrAt b v d) : numC c = numC d := by
  obtain ⟨s1, s2⟩ := hc.same h k hd
  unfold numC
  by_cases h0 : c = 0
  · rw [if_pos h0, if_pos (s1.1 h0)]
  · rw [if_neg h0, if_neg (fun h => h0 (s1.2 h)), s2 h0]
theorem errCode {a : Nat → Addr} {v : Value} {c : Int} (h : ErrAt a v c) : vcode v ≤ 1 ∧ (vcode v = 0 ↔ c = 0) := by
  rcases h with ⟨hc, rfl⟩ | ⟨hc, s, rfl⟩
  · exact ⟨(by decide), fun _ => hc, fun _ => rfl⟩
  · exact ⟨Int.le_refl 1, fun h => absurd (show (1 : Int) = 0 from h) (by omega), fun h => absurd h hc⟩
open Classical in
theorem is_res {e : Value} {R : Hl} {a : Nat → Addr} {c : Int} {g n : Nat} {q : Env} {K Hs : List Hl} {F : Hl} (hG : Gl R a) (hE : ErrAt a e c) (hg : isG g) (hp : isS.post [e, gv a g] Hs [R] (.bool (bev q (.bvar n))) K F) : (q.b n = true) = (c ≠ 0 ∧ gi c = g) := by
  obtain ⟨e', t', R', e1, e2, h⟩ := hp
  simp only [List.cons.injEq, and_true] at e1 e2
  obtain ⟨rfl, rfl⟩ := e1
  subst e2
  have := h a c g hG hE hg rfl
  rw [bev_bvar] at this
  simp only [Value.bool.injEq] at this
  rw [this]; simp
theorem numberE_ok : numberE.OK Tryz.prog := by
  refine Spec.of_fn (Γ := nuΓ) nuΓ_ok ?_
  rintro xs Hs Rs hl1 hl2 ⟨e, R, a, c, rfl, rfl, hG, hE⟩
  have e0 : Hs = [] := List.length_eq_zero_iff.1 hl1
  subst e0
  refine ⟨numbW, ⟨fun _ => 0, fun _ => false, fun _ => .empty, fun _ => e, fun _ => R⟩, fun _ _ => True, fun _ _ => 0, rfl, ⟨?_, ?_, ?_, ?_⟩, (fun _ h => nomatch h), ?_⟩
  · intro r hr ho; simp [numbW] at hr; subst hr; cases ho
  · intro r hr ho; simp [numbW] at hr; subst hr; exact ⟨R, by simp, Hl.le_refl _⟩
  · simp [numbW]
  · intro r hr; simp [numbW] at hr; subst hr; trivial
  · show Nd.holds _ _ _ numbNd
    generalize hρ : (⟨fun _ => 0, fun _ => false, fun _ => .empty, fun _ => e, fun _ => R⟩ : Env) = ρ
    have v0 : ρ.v 0 = e := by rw [← hρ]
    have w1 : ρ.h 1 = R := by rw [← hρ]
    clear hρ
    have out : ∀ {q : Env} {z : Int} {mem : Mem}, z = numC c → postOf numberE [e] [] [R] q mem (.sv (.one (.int .i64 (.lit z)))) := by
      rintro q z mem rfl _
      exact ⟨[], [], rfl, rfl, ⟨⟨fun _ => numC c, fun _ => false, fun _ => .empty, fun _ => .tuple #[], fun _ => Hl.none⟩, rfl, trivial, trivial⟩, e, R, rfl, rfl, fun a' c' hG' hE' => by
        rw [← numC_same hG hG' hE hE']; rfl⟩
    have hcode := errCode hE
    unfold numbNd
    simp only [Nd.holds, X.pre, X.rel, X.n, Src.ok, Src.len, Src.vals, true_and, and_true, if_true, Nat.mul_one, Nat.add_zero, Nat.reduceAdd, List.length_cons, List.length_nil, bT_tt, bT_ff, bT_bvar, bT_not, bT_and, bT_or, bT_ite, bT_lt, bT_le, bT_eq, bT_beq, bT_seq, bT_hB, bT_his, bT_hby, bT_hism, bT_hks, iev_lit, iev_var, iev_add, iev_sub, iev_mul, iev_wrap, iev_ite, iev_hI, iev_hP, iev_hmlen, sev_ite, sev_slit, sev_sof, sev_svar, TV.ev, SV.ev, CV.ev, List.map_cons, List.map_nil, Res.hl, cpTV, Cp.sv, Ck.cv, cpSVs, Cp.len, Ck.len, newHs_zero, newHs_one, roots_ne, nug0, nur0, iev_vint]
    rw [v0, w1]
    have cF : R.cell (Int.toNat 1) (Int.toNat 0) = some (gv a gFull) := hG.cell gFull (Or.inr (Or.inl rfl))
    have cS : R.cell (Int.toNat 2) (Int.toNat 0) = some (gv a gSpent) := hG.cell gSpent (Or.inr (Or.inr rfl))
    rw [cF]
    refine ⟨hcode.1, fun h0 => out (by unfold numC; rw [if_pos (hcode.2.1 h0)]), fun h0 => ⟨rfl, ⟨e, _, R, a, c, gFull, rfl, rfl, hG, hE, Or.inr (Or.inl rfl), rfl⟩, fun q1 g1 ⟨F1, hp1, _⟩ => ?_⟩⟩
    have hc0 : c ≠ 0 := fun h => h0 (hcode.2.2 h)
    have r1 := is_res hG hE (Or.inr (Or.inl rfl)) hp1
    rw [r1, g1.h 1 (by omega), g1.v 0 (by omega), v0, w1, cS]
    refine ⟨fun h => out (by unfold numC; rw [if_neg hc0, if_pos h.2]), fun h => ⟨rfl, ⟨e, _, R, a, c, gSpent, rfl, rfl, hG, hE, Or.inr (Or.inr rfl), rfl⟩, fun q2 g2 ⟨F2, hp2, _⟩ => ?_⟩⟩
    have hn1 : gi c ≠ gFull := fun e => h ⟨hc0, e⟩
    have r2 := is_res hG hE (Or.inr (Or.inr rfl)) hp2
    rw [r2]
    exact ⟨fun h => out (by unfold numC; rw [if_neg hc0, if_neg hn1, if_pos h.2]), fun h => out (by unfold numC; rw [if_neg hc0, if_neg hn1, if_neg fun e => h ⟨hc0, e⟩])⟩
end Go.Proofs.YtomdimlnggpgbaaGreatDoor
namespace Go.Sx
open Go
theorem hls4_le {A B C D : Hl} (h1 : A.dis B) (h2 : A.dis C) (h3 : A.dis D) (h4 : B.dis C) (h5 : B.dis D) (h6 : C.dis D) : A.le (hls [A, B, C, D]) ∧ B.le (hls [A, B, C, D]) ∧ C.le (hls [A, B, C, D]) ∧ D.le (hls [A, B, C, D]) := by
  obtain ⟨r1, r2, r3⟩ := hls3_le h4 h5 h6
  have hd : A.dis (hls [B, C, D]) := by
    show A.dis (B.un (C.un (D.un Hl.none)))
    exact Hl.dis_un h1 (Hl.dis_un h2 (Hl.dis_un h3 (Hl.dis_none _)))
  have hr : (hls [B, C, D]).le (hls [A, B, C, D]) := Hl.un_right hd
  exact ⟨Hl.un_left _ _, fun k o h => hr k o (r1 k o h), fun k o h => hr k o (r2 k o h), fun k o h => hr k o (r3 k o h)⟩
theorem RdB.mono {R R' : Hl} (hl : R.le R') {u : Value} {bs : List Int} (h : RdB R u bs) : RdB R' u bs := by
  obtain ⟨x, y, c, hv, hy, h⟩ := h
  refine ⟨x, y, c, hv, hy, h.imp id fun ⟨h0, h⟩ => ⟨h0, fun j z hz => ?_⟩⟩
  have := h j z hz
  unfold Hl.cell at this ⊢
  split at this
  · rename_i o c' T fr ho
    rw [hl _ _ ho]; exact this
  · cases this
end Go.Sx
namespace Go.Proofs.YtomdimlnggpgbaaGreatDoor.D
open Go Go.Sx
def LogR (H : Hl) (p dp : Value) (L : LM) (bs : List Int) : Prop := ∃ sl, LogRd H p dp sl L ∧ RdB H sl bs
theorem LogR.mono {R R' : Hl} (hl : R.le R') {p dp : Value} {L : LM} {bs : List Int} (h : LogR R p dp L bs) : LogR R' p dp L bs := by
  obtain ⟨sl, h1, h2⟩ := h
  exact ⟨sl, LogRd.mono h1 hl, RdB.mono hl h2⟩
theorem LogAt.rd {H : Hl} {p dp : Value} {L : LM} {bs : List Int} (h : LogAt H p dp L bs) : LogR H p dp L bs := h.parts
theorem LogR.uniq {H : Hl} {p dp dp' : Value} {L L' : LM} {bs bs' : List Int} (h : LogR H p dp L bs) (h' : LogR H p dp' L' bs') : dp = dp' ∧ L = L' ∧ bs = bs' := by
  obtain ⟨sl, h1, h2⟩ := h
  obtain ⟨sl', h1', h2'⟩ := h'
  obtain ⟨e1, rfl, e3⟩ := h1.uniq h1'
  exact ⟨e1, e3, h2.uniq h2'⟩
theorem sectors_post {dp v : Value} {H H' F : Hl} {D : DM} (hD : DiskAt H dp D) (hp : sectorsS.post [dp] [H] [] v [H'] F) : DiskAt H' dp D ∧ v = .int .i64 D.n := by
  obtain ⟨p', Hx, D', H2, hx, hH, hD', hH2, hD2, hv⟩ := hp
  simp only [List.cons.injEq, and_true] at hx hH hH2
  subst hx hH
  have e := hD'.uniq hD
  subst e
  rw [← hH2] at hD2
  exact ⟨hD2, hv⟩
theorem open_post {dp v : Value} {frm n : Int} {H H' F : Hl} {D : DM} (hD : DiskAt H dp D) (hp : openS.post [dp, .int .i64 frm, .int .i64 n] [H] [] v [H'] F) :
    ∃ pv, DiskAt H' dp D ∧ v = .tuple #[pv, .int .i64 (openE D frm n)] ∧ (openE D frm n = 0 → LogAt F pv dp (openL D frm n) (openB D frm n)) ∧ (openE D frm n ≠ 0 → pv = .pointer none) := by
  obtain ⟨dp', frm', n', Hx, D', H'', pv, hx, hH, hDx, hH', hDy, hv, hl⟩ := hp
  have hx : dp = dp' ∧ frm = frm' ∧ n = n' := by simpa using hx
  obtain ⟨e1, e2, e3⟩ := hx
  subst e1 e2 e3
  have hH : H = Hx := by simpa using hH
  subst hH
  have e := hDx.uniq hD
  subst e
  have hH' : H' = H'' := by simpa using hH'
  subst hH'
  exact ⟨pv, hDy, hv, hl⟩
theorem append_post {p u dp v : Value} {nt b bs : List Int} {H HD R F : Hl} {K : List Hl} {L : LM} {D : DM} (h1 : LogAt H p dp L bs) (h2 : DiskAt HD dp D) (h3 : RdW R u b) (hp : appendS.post [p, u, .agg (bys nt).toArray] [H, HD] [R] v K F) :
    ∃ H' HD', K = [H', HD'] ∧ DiskAt HD' dp (appendR D L bs b nt).D ∧ LogAt H' p dp (appendR D L bs b nt).L (appendR D L bs b nt).bs ∧ v = .int .i64 (appendR D L bs b nt).e := by
  obtain ⟨p', u', b', nt', Hx, HDx, Rx, dp', L', bs', D', H', HD', hx, hH, hR, hLx, hDx, hBx, hK, hDy, hLy, hv⟩ := hp
  have hx : p = p' ∧ u = u' ∧ bys nt = bys nt' := by simpa using hx
  obtain ⟨e1, e2, e3⟩ := hx
  have e3 := bys_inj e3
  subst e1 e2 e3
  have hH : H = Hx ∧ HD = HDx := by simpa using hH
  obtain ⟨e1, e2⟩ := hH
  subst e1 e2
  have hR : R = Rx := by simpa using hR
  subst hR
  obtain ⟨e1, e2, e3⟩ := hLx.uniq h1
  subst e1 e2 e3
  have e := hDx.uniq h2
  subst e
  have e := hBx.uniq h3
  subst e
  exact ⟨H', HD', hK, hDy, hLy, hv⟩
theorem bytes_pre {p dp : Value} {H : Hl} {L : LM} {bs : List Int} (h : LogR H p dp L bs) (hb : bs.length ≤ 1048576) : bytesS.pre [p] [] [H, H] := by
  obtain ⟨sl, h1, h2⟩ := h
  exact ⟨p, H, H, dp, sl, L, bs, rfl, rfl, h1, h2, hb⟩
theorem bytes_post {p dp v : Value} {H F : Hl} {K : List Hl} {L : LM} {bs : List Int} (h : LogR H p dp L bs) (hp : bytesS.post [p] [] [H, H] v K F) : OwB F 5 v bs := by
  obtain ⟨sl, h1, h2⟩ := h
  obtain ⟨p', R1, R2, dp', sl', L', bs', hx, hR, hLx, hBx, hO⟩ := hp
  have hx : p = p' := by simpa using hx
  subst hx
  have hR : H = R1 ∧ H = R2 := by simpa using hR
  obtain ⟨e1, e2⟩ := hR
  subst e1 e2
  obtain ⟨e1, e2, e3⟩ := hLx.uniq h1
  subst e1 e2 e3
  have e := hBx.uniq h2
  subst e
  exact hO
theorem room_pre {p dp : Value} {H : Hl} {L : LM} {bs : List Int} (h : LogR H p dp L bs) (hb : bs.length ≤ 1048576) : roomS.pre [p] [] [H] := by
  obtain ⟨sl, h1, h2⟩ := h
  exact ⟨p, H, dp, sl, L, bs.length, rfl, rfl, h1, RdB.slOf h2, hb⟩
theorem room_post {p dp v : Value} {H F : Hl} {K : List Hl} {L : LM} {bs : List Int} (h : LogR H p dp L bs) (hp : roomS.post [p] [] [H] v K F) : v = .int .i64 (L.most - bs.length) := by
  obtain ⟨sl, h1, h2⟩ := h
  obtain ⟨p', R1, dp', sl', L', n', hx, hR, hLx, hs, hv⟩ := hp
  have hx : p = p' := by simpa using hx
  subst hx
  have hR : H = R1 := by simpa using hR
  subst hR
  obtain ⟨e1, e2, e3⟩ := hLx.uniq h1
  subst e1 e2 e3
  have e := hs.uniq (RdB.slOf h2)
  subst e
  exact hv
theorem lnote_pre {p dp : Value} {H : Hl} {L : LM} {bs : List Int} (h : LogR H p dp L bs) : lnoteS.pre [p] [] [H] := by
  obtain ⟨sl, h1, h2⟩ := h
  exact ⟨p, H, dp, sl, L, rfl, rfl, h1⟩
theorem lnote_post {p dp v : Value} {H F : Hl} {K : List Hl} {L : LM} {bs : List Int} (h : LogR H p dp L bs) (hp : lnoteS.post [p] [] [H] v K F) : v = .agg (bys L.note).toArray := by
  obtain ⟨sl, h1, h2⟩ := h
  obtain ⟨p', R1, dp', sl', L', hx, hR, hLx, hv⟩ := hp
  have hx : p = p' := by simpa using hx
  subst hx
  have hR : H = R1 := by simpa using hR
  subst hR
  obtain ⟨e1, e2, e3⟩ := hLx.uniq h1
  subst e1 e2 e3
  exact hv
theorem openB_length {D : DM} (hD : D.ok) {frm n : Int} (hn : 3 ≤ n ∧ n ≤ 16384) : ((openB D frm n).length : Int) ≤ 64 * (n - 2) := by
  have hm : 0 ≤ 64 * (n - 2) := by omega
  have h0 := (lread_head hD frm hm 0).2
  have h1 := (lread_head hD frm hm 1).2
  have hs : (openL D frm n).size ≤ 64 * (n - 2) := by
    show (openH D frm n).getD 1 0 ≤ _
    unfold openH
    split
    · exact h1
    · exact h0
  unfold openB bytesAt
  rw [List.length_take]
  omega
theorem openB_bytes {D : DM} {frm n : Int} (h : ∀ z ∈ D.now, 0 ≤ z ∧ z < 256) : ∀ z ∈ openB D frm n, 0 ≤ z ∧ z < 256 := fun z hz => h z (List.mem_of_mem_drop (List.mem_of_mem_take hz))
end Go.Proofs.YtomdimlnggpgbaaGreatDoor.D
namespace Go.Proofs.YtomdimlnggpgbaaGreatDoor
open Go Go.Sx Go.Pk
open Go.Proofs.YtomdimlnggpgbaaGreatDoor.D hiding envI noLoops numS
theorem gen_pre {p dp : Value} {H : Hl} {L : LM} {bs : List Int} (h : LogR H p dp L bs) : genS.pre [p] [] [H] := by
  obtain ⟨sl, h1, h2⟩ := h
  exact ⟨p, H, dp, sl, L, rfl, rfl, h1⟩
theorem gen_post {p dp v : Value} {H F : Hl} {K : List Hl} {L : LM} {bs : List Int} (h : LogR H p dp L bs) (hp : genS.post [p] [] [H] v K F) : v = .int .u64 (genI L) := by
  obtain ⟨sl, h1, h2⟩ := h
  obtain ⟨p', R1, dp', sl', L', hx, hR, hLx, hv⟩ := hp
  have hx : p = p' := by simpa using hx
  subst hx
  have hR : H = R1 := by simpa using hR
  subst hR
  obtain ⟨e1, e2, e3⟩ := hLx.uniq h1
  subst e1 e2 e3
  exact hv
theorem taken_post {u v : Value} {R F : Hl} {K : List Hl} {bs : List Int} (h : RdW R u bs) (hp : takenS.post [u] [] [R] v K F) : RowsR F v (takenL bs) := by
  obtain ⟨u', bs', R', e1, e2, hR', hO⟩ := hp
  simp only [List.cons.injEq, and_true] at e1 e2
  subst e1 e2
  rw [h.uniq hR']; exact hO
structure SM where
  LA : LM
  bA : List Int
  LB : LM
  bB : List Int
  recs : List (List Int)
  over : Bool
def sHl (a : Nat) (pa pb sl : Value) (o : Bool) : Hl := Hl.one a (.cells #[pa, pb, sl, .bool o] 101 (0, 0))
structure StoreIn (H : Hl) (a : Nat) (dp pa pb sl : Value) (HA HB HR : Hl) (S : SM) : Prop where
  la : LogAt HA pa dp S.LA S.bA
  lb : LogAt HB pb dp S.LB S.bB
  rows : RowsR HR sl S.recs
  d1 : (sHl a pa pb sl S.over).dis HA
  d2 : (sHl a pa pb sl S.over).dis HB
  d3 : (sHl a pa pb sl S.over).dis HR
  d4 : HA.dis HB
  d5 : HA.dis HR
  d6 : HB.dis HR
  hl : H = hls [sHl a pa pb sl S.over, HA, HB, HR]
def StoreAt (H : Hl) (p dp : Value) (S : SM) : Prop := ∃ (a : Nat) (pa pb sl : Value) (HA HB HR : Hl), p = .pointer (some ⟨a, 0, none⟩) ∧ StoreIn H a dp pa pb sl HA HB HR S
structure StoreRd (H : Hl) (a : Nat) (dp pa pb sl : Value) (S : SM) : Prop where
  blk : H a = some (.cells #[pa, pb, sl, .bool S.over] 101 (0, 0))
  la : LogR H pa dp S.LA S.bA
  lb : LogR H pb dp S.LB S.bB
  rows : RowsR H sl S.recs
def StoreR (H : Hl) (p dp : Value) (S : SM) : Prop := ∃ (a : Nat) (pa pb sl : Value), p = .pointer (some ⟨a, 0, none⟩) ∧ StoreRd H a dp pa pb sl S
theorem StoreAt.rd {H : Hl} {p dp : Value} {S : SM} (h : StoreAt H p dp S) : StoreR H p dp S := by
  obtain ⟨a, pa, pb, sl, HA, HB, HR, hp, h⟩ := h
  obtain ⟨l1, l2, l3, l4⟩ := hls4_le h.d1 h.d2 h.d3 h.d4 h.d5 h.d6
  rw [← h.hl] at l1 l2 l3 l4
  exact ⟨a, pa, pb, sl, hp, l1 _ _ (Hl.one_self _ _), h.la.rd.mono l2, h.lb.rd.mono l3, h.rows.mono l4⟩
theorem StoreR.mono {R R' : Hl} (hl : R.le R') {p dp : Value} {S : SM} (h : StoreR R p dp S) : StoreR R' p dp S := by
  obtain ⟨a, pa, pb, sl, hp, h⟩ := h
  exact ⟨a, pa, pb, sl, hp, hl _ _ h.blk, h.la.mono hl, h.lb.mono hl, h.rows.mono hl⟩
theorem StoreR.uniq {H : Hl} {p dp dp' : Value} {S S' : SM} (h : StoreR H p dp S) (h' : StoreR H p dp' S') : dp = dp' ∧ S = S' := by
  obtain ⟨a, pa, pb, sl, rfl, h⟩ := h
  obtain ⟨a', pa', pb', sl', hp, h'⟩ := h'
  have e : a = a' := by simpa using hp
  subst e
  have hb := h.blk.symm.trans h'.blk
  simp only [Option.some.injEq, Obj.cells.injEq, Array.mk.injEq, List.cons.injEq, Value.bool.injEq, and_true] at hb
  obtain ⟨rfl, rfl, rfl, e4⟩ := hb
  obtain ⟨e1, e2, e3⟩ := h.la.uniq h'.la
  obtain ⟨_, e5, e6⟩ := h.lb.uniq h'.lb
  have e7 := h.rows.uniq h'.rows
  refine ⟨e1, ?_⟩
  obtain ⟨x1, x2, x3, x4, x5, x6⟩ := S
  obtain ⟨y1, y2, y3, y4, y5, y6⟩ := S'
  simp only at e2 e3 e4 e5 e6 e7
  subst e2 e3 e4 e5 e6 e7
  rfl
def sOpenE (D : DM) : Int := if D.n / 2 < 3 then 1 else if D.gone then 5 else 0
def lowL (D : DM) : LM := openL D 0 ((D.n / 2 : Nat) : Int)
def lowB (D : DM) : List Int := openB D 0 ((D.n / 2 : Nat) : Int)
def highL (D : DM) : LM := openL D ((D.n / 2 : Nat) : Int) ((D.n / 2 : Nat) : Int)
def highB (D : DM) : List Int := openB D ((D.n / 2 : Nat) : Int) ((D.n / 2 : Nat) : Int)
def mkS (A : LM) (bA : List Int) (B : LM) (bB : List Int) : SM := ⟨A, bA, B, bB, takenL bA, false⟩
def sOpen (D : DM) : SM := if genI (lowL D) < genI (highL D) then mkS (highL D) (highB D) (lowL D) (lowB D) else mkS (lowL D) (lowB D) (highL D) (highB D)
def sopenS : Sx.Spec where
  fn := 13
  own := [.arg 0]
  rd := []
  res := [.one .ptr, .one (.int .i64)]
  links := [0]
  pre := fun xs Hs Rs => ∃ dp H D, xs = [dp] ∧ Hs = [H] ∧ DiskAt H dp D ∧ bytes256 (lowB D) ∧ bytes256 (highB D)
  post := fun xs Hs Rs v Hs' F => ∃ dp H D H' pv, xs = [dp] ∧ Hs = [H] ∧ DiskAt H dp D ∧ Hs' = [H'] ∧ DiskAt H' dp D ∧ v = .tuple #[pv, .int .i64 (sOpenE D)] ∧ (sOpenE D = 0 → StoreAt F pv dp (sOpen D)) ∧ (sOpenE D ≠ 0 → pv = .pointer none)
def soΓ : List Sx.Spec := [sectorsS, openS, genS, bytesS, takenS]
theorem soΓ_ok : ∀ t ∈ soΓ, t.OK Tryz.prog := fun t ht => by
  simp only [soΓ, List.mem_cons, List.mem_nil_iff, or_false] at ht
  rcases ht with rfl | rfl | rfl | rfl | rfl
  · exact sectorsS_ok
  · exact openS_ok
  · exact genS_ok
  · exact bytesS_ok
  · exact takenS_ok
def sopenNd : Nd := .and (.pre (.call 0 2 [.sv (.one (.hptr (.var 0) (.lit 0)))] [.hp 1 [] [.var 0] []] [])) (.ext (.call 0 2 [.sv (.one (.hptr (.var 0) (.lit 0)))] [.hp 1 [] [.var 0] []] []) (.and (.imp (.lt (.wrap .i64 (.quo (.var 2) (.lit 2))) (.lit 3)) (.post [.hp 2 [1] [.var 0] []] (.tup [.one (.hptr (.lit (-1)) (.lit 0)), .one (.int .i64 (.lit 1))]))) (.imp (.not (.lt (.wrap .i64 (.quo (.var 2) (.lit 2))) (.lit 3))) (.and (.pre (.call 1 4 [.sv (.one (.hptr (.var 0) (.lit 0))), .sv (.one (.int .i64 (.lit 0))), .sv (.one (.int .i64 (.wrap .i64 (.quo (.var 2) (.lit 2)))))] [.hp 2 [1] [.var 0] []] [])) (.ext (.call 1 4 [.sv (.one (.hptr (.var 0) (.lit 0))), .sv (.one (.int .i64 (.lit 0))), .sv (.one (.int .i64 (.wrap .i64 (.quo (.var 2) (.lit 2)))))] [.hp 2 [1] [.var 0] []] []) (.and (.imp (.not (.eq (.var 6) (.lit 0))) (.post [.hp 4 [2, 1] [.var 0] [], .hp 5 [] [.var 4] [.var 0]] (.tup [.one (.hptr (.lit (-1)) (.lit 0)), .one (.int .i64 (.var 6))]))) (.imp (.eq (.var 6) (.lit 0)) (.and (.pre (.call 1 7 [.sv (.one (.hptr (.var 0) (.lit 0))), .sv (.one (.int .i64 (.wrap .i64 (.quo (.var 2) (.lit 2))))), .sv (.one (.int .i64 (.wrap .i64 (.quo (.var 2) (.lit 2)))))] [.hp 4 [2, 1] [.var 0] []] [])) (.ext (.call 1 7 [.sv (.one (.hptr (.var 0) (.lit 0))), .sv (.one (.int .i64 (.wrap .i64 (.quo (.var 2) (.lit 2))))), .sv (.one (.int .i64 (.wrap .i64 (.quo (.var 2) (.lit 2)))))] [.hp 4 [2, 1] [.var 0] []] []) (.and (.imp (.not (.eq (.var 9) (.lit 0))) (.post [.hp 7 [4, 2, 1] [.var 0] [], .hp 5 [] [.var 4] [.var 0], .hp 8 [] [.var 7] [.var 0]] (.tup [.one (.hptr (.lit (-1)) (.lit 0)), .one (.int .i64 (.var 9))]))) (.imp (.eq (.var 9) (.lit 0)) (.and (.pre (.call 2 10 [.sv (.one (.hptr (.var 7) (.var 8)))] [] [.hp 8 [] [.var 7] [.var 0]])) (.ext (.call 2 10 [.sv (.one (.hptr (.var 7) (.var 8)))] [] [.hp 8 [] [.var 7] [.var 0]]) (.and (.pre (.call 2 11 [.sv (.one (.hptr (.var 4) (.var 5)))] [] [.hp 5 [] [.var 4] [.var 0]])) (.ext (.call 2 11 [.sv (.one (.hptr (.var 4) (.var 5)))] [] [.hp 5 [] [.var 4] [.var 0]]) (.and (.imp (.lt (.var 11) (.var 10)) (.and (.pre (.call 3 12 [.sv (.one (.hptr (.var 7) (.var 8)))] [] [.hp 8 [] [.var 7] [.var 0], .hp 8 [] [.var 7] [.var 0]])) (.ext (.call 3 12 [.sv (.one (.hptr (.var 7) (.var 8)))] [] [.hp 8 [] [.var 7] [.var 0], .hp 8 [] [.var 7] [.var 0]]) (.and (.pre (.call 4 16 [.sv (.one (.sl (.var 12) (.var 13) (.var 14) (.var 15)))] [] [.hp 12 [] [.var 12] []])) (.ext (.call 4 16 [.sv (.one (.sl (.var 12) (.var 13) (.var 14) (.var 15)))] [] [.hp 12 [] [.var 12] []]) (.ext (.alloc 20) (.post [.hp 7 [4, 2, 1] [.var 0] [], .hp 5 [] [.var 4] [.var 0], .hp 8 [] [.var 7] [.var 0], .hp 12 [] [.var 12] [], .hp 16 [] [.var 16] [], .blk 20 [.hptr (.var 7) (.var 8), .hptr (.var 4) (.var 5), .sl (.var 16) (.var 17) (.var 18) (.var 19), .bool .ff] 101] (.tup [.one (.hptr (.var 20) (.lit 0)), .one (.int .i64 (.lit 0))])))))))) (.imp (.not (.lt (.var 11) (.var 10))) (.and (.pre (.call 3 12 [.sv (.one (.hptr (.var 4) (.var 5)))] [] [.hp 5 [] [.var 4] [.var 0], .hp 5 [] [.var 4] [.var 0]])) (.ext (.call 3 12 [.sv (.one (.hptr (.var 4) (.var 5)))] [] [.hp 5 [] [.var 4] [.var 0], .hp 5 [] [.var 4] [.var 0]]) (.and (.pre (.call 4 16 [.sv (.one (.sl (.var 12) (.var 13) (.var 14) (.var 15)))] [] [.hp 12 [] [.var 12] []])) (.ext (.call 4 16 [.sv (.one (.sl (.var 12) (.var 13) (.var 14) (.var 15)))] [] [.hp 12 [] [.var 12] []]) (.ext (.alloc 20) (.post [.hp 7 [4, 2, 1] [.var 0] [], .hp 5 [] [.var 4] [.var 0], .hp 8 [] [.var 7] [.var 0], .hp 12 [] [.var 12] [], .hp 16 [] [.var 16] [], .blk 20 [.hptr (.var 4) (.var 5), .hptr (.var 7) (.var 8), .sl (.var 16) (.var 17) (.var 18) (.var 19), .bool .ff] 101] (.tup [.one (.hptr (.var 20) (.lit 0)), .one (.int .i64 (.lit 0))]))))))))))))))))))))))))
def sopenW : Walk Tryz.prog soΓ sopenS.fn where
  Λ := noLoops
  args := [TP (.var 0) (.lit 0)]
  mem := [.hp 1 [] [.var 0] []]
  nv := 2
  nd := sopenNd
  ok := by kernel_rfl
theorem sog0 : soΓ[0]? = some sectorsS := rfl
theorem sog1 : soΓ[1]? = some openS := rfl
theorem sog2 : soΓ[2]? = some genS := rfl
theorem sog3 : soΓ[3]? = some bytesS := rfl
theorem sog4 : soΓ[4]? = some takenS := rfl
theorem sor0 : sectorsS.res = [.one (.int .i64)] := rfl
theorem sor1 : openS.res = [.one .ptr, .one (.int .i64)] := rfl
theorem sor2 : genS.res = [.one (.int .u64)] := rfl
theorem sor3 : bytesS.res = [.one .sl] := rfl
theorem sor4 : takenS.res = [.one .sl] := rfl
theorem rpi (n : Nat) : (cpRoots n [Cp.one .ptr, Cp.one (.int .i64)] ≠ []) = True := by simp [cpRoots, Cp.roots, Ck.root]
theorem half_wrap {n : Nat} (h : n ≤ 16384) : IntKind.i64.wrap ((n : Int).tdiv 2) = ((n / 2 : Nat) : Int) := by
  have e : (n : Int).tdiv 2 = ((n / 2 : Nat) : Int) := rfl
  rw [e]
  exact wrap_i64 (by omega) (by omega)
set_option maxRecDepth 4000 in
theorem sopenS_ok : sopenS.OK Tryz.prog := by
  refine Spec.of_fn (Γ := soΓ) soΓ_ok ?_
  rintro xs Hs Rs hl1 hl2 ⟨dp, H, D, rfl, rfl, hD, hlo, hhi⟩
  have e1 : Rs = [] := List.length_eq_zero_iff.1 hl2
  subst e1
  obtain ⟨da, s, m, es, clock, hdp, hDi⟩ := id hD
  have hDn := hDi.ok.n
  have hok := hDi.ok
  refine ⟨sopenW, envI [(da : Int)] false [Hl.none, H], fun _ _ => True, fun _ _ => 0, ?_, ⟨?_, ?_, ?_, ?_⟩, (fun _ h => nomatch h), ?_⟩
  · show [Value.pointer (slP (da : Int) 0)] = _; rw [ptr0, hdp]
  · intro r hr ho; simp [sopenW] at hr; subst hr; exact ⟨H, by simp, Hl.le_refl _⟩
  · intro r hr ho; simp [sopenW] at hr; subst hr; cases ho
  · simp [sopenW]
  · intro r hr; simp [sopenW] at hr; subst hr; trivial
  · show Nd.holds _ _ _ sopenNd
    generalize hρ : envI [(da : Int)] false [Hl.none, H] = ρ
    have v0 : ρ.i 0 = da := by rw [← hρ]; rfl
    have w1 : ρ.h 1 = H := by rw [← hρ]; rfl
    clear hρ
    have ep : Value.pointer (slP (da : Int) 0) = dp := by rw [ptr0, hdp]
    have bad : ∀ (q : Env) (k : Nat) (vs : List Nat) (t : Mem) (x : E) (e : Int), DiskAt (q.h k) dp D → iev q x = e → sOpenE D = e → e ≠ 0 →
        postOf sopenS [dp] [H] [] q (.hp k vs [.var 0] [] :: t) (.tup [.one (.hptr (.lit (-1)) (.lit 0)), .one (.int .i64 x)]) := by
      intro q k vs t x e hq hx he hne _
      refine ⟨[[0]], [], rfl, rfl, ⟨⟨fun j => [-1, 0, e].getD j 0, fun _ => false, fun _ => .empty, fun _ => .tuple #[], fun _ => Hl.none⟩, ?_, ⟨by show (-1 : Int) ≤ -1; omega, Int.le_refl _⟩, trivial, trivial⟩, dp, H, D, _, .pointer none, rfl, rfl, hD, rfl, ?_, ?_, fun h => absurd (he.symm.trans h) hne, fun _ => rfl⟩
      · subst hx; rfl
      · show DiskAt (hls [q.h k]) _ _
        rw [hls_one]; exact hq
      · rw [he, ← hx]; rfl
    unfold sopenNd
    simp only [Nd.holds, X.pre, X.rel, X.n, Src.ok, Src.len, Src.vals, true_and, and_true, if_true, Nat.mul_one, Nat.add_zero, Nat.reduceAdd, List.length_cons, List.length_nil, bT_tt, bT_ff, bT_bvar, bT_not, bT_and, bT_or, bT_ite, bT_lt, bT_le, bT_eq, bT_beq, bT_seq, bT_hB, bT_his, bT_hby, bT_hism, bT_hks, iev_lit, iev_var, iev_add, iev_sub, iev_mul, iev_wrap, iev_ite, iev_hI, iev_hP, iev_hmlen, sev_ite, sev_slit, sev_sof, sev_svar, TV.ev, SV.ev, CV.ev, List.map_cons, List.map_nil, Res.hl, cpTV, Cp.sv, Ck.cv, cpSVs, Cp.len, Ck.len, newHs_zero, newHs_one, roots_ne, sog0, sog1, sog2, sog3, sog4, sor0, sor1, sor2, sor3, sor4, rsl, rptr, rpi, iev_quo]
    rw [v0, w1, ep]
    refine ⟨⟨dp, H, D, rfl, rfl, hD⟩, fun q1 g1 ⟨F1, hp1, _⟩ => ?_⟩
    obtain ⟨hD1, hv1⟩ := sectors_post hD hp1
    have hv1 : q1.i 2 = D.n := by simpa using hv1
    rw [hv1, half_wrap hDn, g1.i 0 (by omega), v0, ep]
    refine ⟨fun hlt => bad q1 2 _ _ _ 1 hD1 (iev_lit _ _) (by unfold sOpenE; rw [if_pos (by omega)]) (by decide), fun hge => ?_⟩
    have hn3 : 3 ≤ D.n / 2 := by omega
    have hE : sOpenE D = if D.gone then 5 else 0 := by unfold sOpenE; rw [if_neg (by omega)]
    have hEA : openE D 0 ((D.n / 2 : Nat) : Int) = if D.gone then 5 else 0 := by unfold openE; rw [if_neg (by omega)]
    have hEB : openE D ((D.n / 2 : Nat) : Int) ((D.n / 2 : Nat) : Int) = if D.gone then 5 else 0 := by unfold openE; rw [if_neg (by omega)]
    have hnn : 3 ≤ ((D.n / 2 : Nat) : Int) ∧ ((D.n / 2 : Nat) : Int) ≤ 16384 := by omega
    refine ⟨⟨dp, _, _, _, D, rfl, rfl, hD1⟩, fun q2 g2 ⟨F2, hp2, hF2, hn2⟩ => ?_⟩
    obtain ⟨pA, hD2, hv2, hA, _⟩ := open_post hD1 hp2
    simp only [Value.tuple.injEq, Array.mk.injEq, List.cons.injEq, Value.int.injEq, true_and, and_true] at hv2
    obtain ⟨eA, e6⟩ := hv2
    have G2 : Agree 2 ρ q2 := g1.trans (g2.mono (by omega))
    have hq2 : q2.i 2 = D.n := by rw [g2.i 2 (by omega), hv1]
    rw [hq2, half_wrap hDn, G2.i 0 (by omega), v0, ep]
    refine ⟨fun hne => bad q2 4 _ _ _ 5 hD2 (by rw [iev_var, e6, hEA, if_pos]; exact Classical.byContradiction fun hg => hne (by rw [e6, hEA, if_neg hg])) (by rw [hE, if_pos]; exact Classical.byContradiction fun hg => hne (by rw [e6, hEA, if_neg hg])) (by decide), fun heq => ?_⟩
    have hgone : D.gone = false := by
      cases hg : D.gone with
      | false => rfl
      | true => rw [e6, hEA, hg] at heq; cases heq
    have hA : LogAt F2 pA dp (lowL D) (lowB D) := hA (by rw [hEA, hgone]; rfl)
    rw [← eA, ← hF2 trivial] at hA
    refine ⟨⟨dp, _, _, _, D, rfl, rfl, hD2⟩, fun q3 g3 ⟨F3, hp3, hF3, hn3'⟩ => ?_⟩
    obtain ⟨pB, hD3, hv3, hB, _⟩ := open_post hD2 hp3
    simp only [Value.tuple.injEq, Array.mk.injEq, List.cons.injEq, Value.int.injEq, true_and, and_true] at hv3
    obtain ⟨eB, e9⟩ := hv3
    have e9 : q3.i 9 = 0 := by rw [e9, hEB, hgone]; rfl
    have hB : LogAt F3 pB dp (highL D) (highB D) := hB (by rw [hEB, hgone]; rfl)
    rw [← eB, ← hF3 trivial] at hB
    refine ⟨fun h => absurd e9 h, fun _ => ⟨gen_pre hB.rd, fun q4 g4 ⟨F4, hp4, _⟩ => ?_⟩⟩
    have hv4 : q4.i 10 = genI (highL D) := by simpa using gen_post hB.rd hp4
    have G4 : Agree 7 q2 q4 := g3.trans (g4.mono (by omega))
    have hA4 : LogAt (q4.h 5) (.pointer (slP (q4.i 4) (q4.i 5))) dp (lowL D) (lowB D) := by
      rw [G4.h 5 (by omega), G4.i 4 (by omega), G4.i 5 (by omega)]; exact hA
    refine ⟨gen_pre hA4.rd, fun q5 g5 ⟨F5, hp5, _⟩ => ?_⟩
    have hv5 : q5.i 11 = genI (lowL D) := by simpa using gen_post hA4.rd hp5
    have hv5' : q5.i 10 = genI (highL D) := by rw [g5.i 10 (by omega), hv4]
    have hA5 : LogAt (q5.h 5) (.pointer (slP (q5.i 4) (q5.i 5))) dp (lowL D) (lowB D) := by
      rw [g5.h 5 (by omega), g5.i 4 (by omega), g5.i 5 (by omega)]; exact hA4
    have G35 : Agree 10 q3 q5 := g4.trans (g5.mono (by omega))
    have hB5 : LogAt (q5.h 8) (.pointer (slP (q5.i 7) (q5.i 8))) dp (highL D) (highB D) := by
      rw [G35.h 8 (by omega), G35.i 7 (by omega), G35.i 8 (by omega)]; exact hB
    have hD5 : DiskAt (q5.h 7) dp D := by rw [G35.h 7 (by omega)]; exact hD3
    have hLA : ((lowB D).length : Int) ≤ _ := openB_length hok (frm := 0) hnn
    have hLB : ((highB D).length : Int) ≤ _ := openB_length hok (frm := ((D.n / 2 : Nat) : Int)) hnn
    rw [hv5, hv5']
    have hsE : sOpenE D = 0 := by rw [hE, hgone]; rfl
    refine ⟨fun hlt => ⟨bytes_pre hB5.rd (by omega), fun q6 g6 ⟨F6, hp6, hF6, hn6⟩ => ?_⟩, fun hge => ⟨bytes_pre hA5.rd (by omega), fun q6 g6 ⟨F6, hp6, hF6, hn6⟩ => ?_⟩⟩
    · have hO := bytes_post hB5.rd hp6
      rw [← hF6 trivial] at hO
      have hRd := hO.rd.w
      refine ⟨⟨_, _, _, rfl, rfl, hRd, hhi, by omega⟩, fun q7 g7 ⟨F7, hp7, hF7, hn7⟩ q8 g8 p8 hd => ?_⟩
      have hW := taken_post hRd hp7
      rw [← hF7 trivial] at hW
      have G7 : Agree 12 q5 q8 := g6.trans ((g7.trans (g8.mono (by omega))).mono (by omega))
      have hn7 : -1 ≤ q7.i 16 ∧ 0 ≤ q7.i 17 ∧ 0 ≤ q7.i 18 ∧ 0 ≤ q7.i 19 := hn7.1
      refine ⟨[[0]], [5, 2, 1, 4], rfl, rfl, ⟨⟨fun j => [q8.i 20, 0, 0].getD j 0, fun _ => false, fun _ => .empty, fun _ => .tuple #[], fun _ => Hl.none⟩, rfl, ⟨by show -1 ≤ q8.i 20; omega, Int.le_refl _⟩, trivial, trivial⟩, dp, H, D, _, Value.pointer (slP (q8.i 20) 0), rfl, rfl, hD, rfl, ?_, ?_, fun _ => ?_, fun h => absurd hsE h⟩
      · show DiskAt (hls [q8.h 7]) _ _
        rw [hls_one, G7.h 7 (by omega)]; exact hD5
      · rw [hsE]; rfl
      · unfold sOpen
        rw [if_pos hlt]
        have hW8 : RowsR (q8.h 16) (.slice (slP (q8.i 16) (q8.i 17)) (q8.i 18).toNat (q8.i 19).toNat) (takenL (highB D)) := by
          rw [g8.h 16 (by omega), g8.i 16 (by omega), g8.i 17 (by omega), g8.i 18 (by omega), g8.i 19 (by omega)]; exact hW
        have hA8 : LogAt (q8.h 5) (.pointer (slP (q8.i 4) (q8.i 5))) dp (lowL D) (lowB D) := by
          rw [G7.h 5 (by omega), G7.i 4 (by omega), G7.i 5 (by omega)]; exact hA5
        have hB8 : LogAt (q8.h 8) (.pointer (slP (q8.i 7) (q8.i 8))) dp (highL D) (highB D) := by
          rw [G7.h 8 (by omega), G7.i 7 (by omega), G7.i 8 (by omega)]; exact hB5
        exact ⟨(q8.i 20).toNat, _, _, _, _, _, _, by rw [slP_pos p8]; rfl, ⟨hB8, hA8, hW8, hd 5 2 _ _ (by decide) rfl rfl rfl, hd 5 1 _ _ (by decide) rfl rfl rfl, hd 5 4 _ _ (by decide) rfl rfl rfl, hd 2 1 _ _ (by decide) rfl rfl rfl, hd 2 4 _ _ (by decide) rfl rfl rfl, hd 1 4 _ _ (by decide) rfl rfl rfl, rfl⟩⟩
    · have hO := bytes_post hA5.rd hp6
      rw [← hF6 trivial] at hO
      have hRd := hO.rd.w
      refine ⟨⟨_, _, _, rfl, rfl, hRd, hlo, by omega⟩, fun q7 g7 ⟨F7, hp7, hF7, hn7⟩ q8 g8 p8 hd => ?_⟩
      have hW := taken_post hRd hp7
      rw [← hF7 trivial] at hW
      have G7 : Agree 12 q5 q8 := g6.trans ((g7.trans (g8.mono (by omega))).mono (by omega))
      have hn7 : -1 ≤ q7.i 16 ∧ 0 ≤ q7.i 17 ∧ 0 ≤ q7.i 18 ∧ 0 ≤ q7.i 19 := hn7.1
      refine ⟨[[0]], [5, 1, 2, 4], rfl, rfl, ⟨⟨fun j => [q8.i 20, 0, 0].getD j 0, fun _ => false, fun _ => .empty, fun _ => .tuple #[], fun _ => Hl.none⟩, rfl, ⟨by show -1 ≤ q8.i 20; omega, Int.le_refl _⟩, trivial, trivial⟩, dp, H, D, _, Value.pointer (slP (q8.i 20) 0), rfl, rfl, hD, rfl, ?_, ?_, fun _ => ?_, fun h => absurd hsE h⟩
      · show DiskAt (hls [q8.h 7]) _ _
        rw [hls_one, G7.h 7 (by omega)]; exact hD5
      · rw [hsE]; rfl
      · unfold sOpen
        rw [if_neg hge]
        have hW8 : RowsR (q8.h 16) (.slice (slP (q8.i 16) (q8.i 17)) (q8.i 18).toNat (q8.i 19).toNat) (takenL (lowB D)) := by
          rw [g8.h 16 (by omega), g8.i 16 (by omega), g8.i 17 (by omega), g8.i 18 (by omega), g8.i 19 (by omega)]; exact hW
        have hA8 : LogAt (q8.h 5) (.pointer (slP (q8.i 4) (q8.i 5))) dp (lowL D) (lowB D) := by
          rw [G7.h 5 (by omega), G7.i 4 (by omega), G7.i 5 (by omega)]; exact hA5
        have hB8 : LogAt (q8.h 8) (.pointer (slP (q8.i 7) (q8.i 8))) dp (highL D) (highB D) := by
          rw [G7.h 8 (by omega), G7.i 7 (by omega), G7.i 8 (by omega)]; exact hB5
        exact ⟨(q8.i 20).toNat, _, _, _, _, _, _, by rw [slP_pos p8]; rfl, ⟨hA8, hB8, hW8, hd 5 1 _ _ (by decide) rfl rfl rfl, hd 5 2 _ _ (by decide) rfl rfl rfl, hd 5 4 _ _ (by decide) rfl rfl rfl, hd 1 2 _ _ (by decide) rfl rfl rfl, hd 1 4 _ _ (by decide) rfl rfl rfl, hd 2 4 _ _ (by decide) rfl rfl rfl, rfl⟩⟩
end Go.Proofs.YtomdimlnggpgbaaGreatDoor
namespace Go.Proofs.YtomdimlnggpgbaaGreatDoor
open Go Go.Sx Go.Pk
open Go.Proofs.YtomdimlnggpgbaaGreatDoor.D hiding envI noLoops numS
def readyE (o : Bool) (rows : List (List Int)) (e : Int) : Prop := (o = true → e = 5) ∧ (o = false → packOk rows → e = 0) ∧ (o = false → ¬ packOk rows → e = 3)
def readyS : Sx.Spec where
  fn := 49
  own := []
  rd := [0, 1, 3000001]
  res := [.one .sl, .one (.int .i64)]
  pre := fun xs Hs Rs => ∃ p v a o R R1 RA rows, xs = [p, v] ∧ Rs = [R, R1, RA] ∧ p = .pointer (some ⟨a, 0, none⟩) ∧ R.cell a 3 = some (.bool o) ∧ RowsB R1 RA v rows ∧ rows.length ≤ 1000000 ∧ ∀ r ∈ rows, 0 ≤ r.length
  post := fun xs Hs Rs w Hs' F => ∃ p v a o R R1 RA rows u e, xs = [p, v] ∧ Rs = [R, R1, RA] ∧ p = .pointer (some ⟨a, 0, none⟩) ∧ R.cell a 3 = some (.bool o) ∧ RowsB R1 RA v rows ∧ w = .tuple #[u, .int .i64 e] ∧ readyE o rows e ∧ (e = 0 → OwB F 5 u (packB rows))
theorem ready_post {a : Nat} {o : Bool} {v w : Value} {R R1 RA F : Hl} {K : List Hl} {rows : List (List Int)} (h1 : R.cell a 3 = some (.bool o)) (h2 : RowsB R1 RA v rows) (hp : readyS.post [.pointer (some ⟨a, 0, none⟩), v] [] [R, R1, RA] w K F) :
    ∃ u e, w = .tuple #[u, .int .i64 e] ∧ readyE o rows e ∧ (e = 0 → OwB F 5 u (packB rows)) := by
  obtain ⟨p', v', a', o', R', R1', RA', rows', u, e, e1, e2, e3, e4, e5, hw, hE, hO⟩ := hp
  simp only [List.cons.injEq, and_true] at e1 e2
  obtain ⟨ep, ev⟩ := e1
  obtain ⟨x1, x2, x3⟩ := e2
  subst ep ev x1 x2 x3
  have ea : a = a' := by simpa using e3
  subst ea
  have eo : o = o' := by simpa using h1.symm.trans e4
  subst eo
  obtain rfl := h2.uniq e5
  exact ⟨u, e, hw, hE, hO⟩
theorem packed_post {v w : Value} {R RA F : Hl} {K : List Hl} {rows : List (List Int)} (h2 : RowsB R RA v rows) (hp : packedS.post [v] [] [R, RA] w K F) :
    ∃ u e, w = .tuple #[u, .int .i64 e] ∧ (packOk rows → e = 0 ∧ OwB F 5 u (packB rows)) ∧ (¬ packOk rows → e = 3) := by
  obtain ⟨v', R', RA', rows', u, e, e1, e2, e5, hw, hE, hO⟩ := hp
  simp only [List.cons.injEq, and_true] at e1 e2
  obtain ⟨x2, x3⟩ := e2
  subst e1 x2 x3
  obtain rfl := h2.uniq e5
  exact ⟨u, e, hw, hE, hO⟩
def rdyΓ : List Sx.Spec := [packedS]
theorem rdyΓ_ok : ∀ t ∈ rdyΓ, t.OK Tryz.prog := fun t ht => by
  simp only [rdyΓ, List.mem_cons, List.mem_nil_iff, or_false] at ht
  rw [ht]; exact packedS_ok
def readyNd : Nd := .and (.e (.le (.lit 0) (.var 0))) (.and (.e (.his 5 (.var 0) (.lit 3) 0 .bool)) (.and (.imp (.hB 5 (.var 0) (.lit 3) 0) (.post [.ro 5 [.var 0] false, .ro 6 [.var 1] false, .ro 7 [] true] (.tup [.one (.sl (.lit (-1)) (.lit 0) (.lit 0) (.lit 0)), .one (.int .i64 (.lit 5))]))) (.imp (.not (.hB 5 (.var 0) (.lit 3) 0)) (.and (.pre (.call 0 8 [.sv (.one (.sl (.var 1) (.var 2) (.var 3) (.var 4)))] [] [.ro 6 [.var 1] false, .ro 7 [] true])) (.ext (.call 0 8 [.sv (.one (.sl (.var 1) (.var 2) (.var 3) (.var 4)))] [] [.ro 6 [.var 1] false, .ro 7 [] true]) (.post [.ro 5 [.var 0] false, .ro 6 [.var 1] false, .ro 7 [] true, .hp 8 [] [.var 8] []] (.tup [.one (.sl (.var 8) (.var 9) (.var 10) (.var 11)), .one (.int .i64 (.var 12))])))))))
def readyW : Walk Tryz.prog rdyΓ readyS.fn where
  Λ := noLoops
  args := [TP (.var 0) (.lit 0), .sv (.one (.sl (.var 1) (.var 2) (.var 3) (.var 4)))]
  mem := [.ro 5 [.var 0] false, .ro 6 [.var 1] false, .ro 7 [] true]
  nv := 8
  nd := readyNd
  ok := by kernel_rfl
theorem rdg0 : rdyΓ[0]? = some packedS := rfl
theorem rdr0 : packedS.res = [.one .sl, .one (.int .i64)] := rfl
open Classical in
theorem readyS_ok : readyS.OK Tryz.prog := by
  refine Spec.of_fn (Γ := rdyΓ) rdyΓ_ok ?_
  rintro xs Hs Rs hl1 hl2 ⟨p, v, a, o, R, R1, RA, rows, rfl, rfl, rfl, hc, hB, hlen, hrow⟩
  have e0 : Hs = [] := List.length_eq_zero_iff.1 hl1
  subst e0
  obtain ⟨us, x, y, c, rfl, hy, hul, hcell, hrd⟩ := id hB
  refine ⟨readyW, envI [(a : Int), x, y, us.length, c] false [Hl.none, Hl.none, Hl.none, Hl.none, Hl.none, R, R1, RA], fun _ _ => True, fun _ _ => 0, ?_, ⟨?_, ?_, ?_, ?_⟩, (fun _ h => nomatch h), ?_⟩
  · show [Value.pointer (slP (a : Int) 0), Value.slice (slP x y) ((us.length : Int)).toNat ((c : Int)).toNat] = _
    rw [Int.toNat_natCast, Int.toNat_natCast, ptr0]
  · intro r hr ho; simp [readyW] at hr; rcases hr with rfl | rfl | rfl <;> cases ho
  · intro r hr ho; simp [readyW] at hr
    rcases hr with rfl | rfl | rfl
    · exact ⟨R, by simp, Hl.le_refl _⟩
    · exact ⟨R1, by simp, Hl.le_refl _⟩
    · exact ⟨RA, by simp, Hl.le_refl _⟩
  · simp [readyW, Res.own]
  · intro r hr; simp [readyW] at hr; rcases hr with rfl | rfl | rfl <;> trivial
  · show Nd.holds _ _ _ readyNd
    generalize hρ : envI [(a : Int), x, y, us.length, c] false [Hl.none, Hl.none, Hl.none, Hl.none, Hl.none, R, R1, RA] = ρ
    have v0 : ρ.i 0 = a := by rw [← hρ]; rfl
    have v1 : ρ.i 1 = x := by rw [← hρ]; rfl
    have v2 : ρ.i 2 = y := by rw [← hρ]; rfl
    have v3 : ρ.i 3 = us.length := by rw [← hρ]; rfl
    have v4 : ρ.i 4 = c := by rw [← hρ]; rfl
    have w5 : ρ.h 5 = R := by rw [← hρ]; rfl
    have w6 : ρ.h 6 = R1 := by rw [← hρ]; rfl
    have w7 : ρ.h 7 = RA := by rw [← hρ]; rfl
    clear hρ
    have t3 : Int.toNat 3 = 3 := rfl
    unfold readyNd
    simp only [Nd.holds, X.pre, X.rel, X.n, Src.ok, Src.len, Src.vals, true_and, and_true, if_true, Nat.mul_one, Nat.add_zero, Nat.reduceAdd, List.length_cons, List.length_nil, bT_tt, bT_ff, bT_bvar, bT_not, bT_and, bT_or, bT_ite, bT_lt, bT_le, bT_eq, bT_beq, bT_seq, bT_hB, bT_his, bT_hby, bT_hism, bT_hks, iev_lit, iev_var, iev_add, iev_sub, iev_mul, iev_wrap, iev_ite, iev_hI, iev_hP, iev_hmlen, sev_ite, sev_slit, sev_sof, sev_svar, TV.ev, SV.ev, CV.ev, List.map_cons, List.map_nil, Res.hl, cpTV, Cp.sv, Ck.cv, cpSVs, Cp.len, Ck.len, newHs_zero, newHs_one, roots_ne, rdg0, rdr0, rsi, t3]
    rw [v0, v1, v2, v3, v4, w5, w6, w7, Int.toNat_natCast, Int.toNat_natCast, Int.toNat_natCast, hc]
    refine ⟨by omega, rfl, fun ho _ => ?_, fun ho => ⟨⟨_, R1, RA, rows, rfl, rfl, hB, hlen, hrow⟩, fun q1 g1 ⟨F1, hp1, hF1, hn1⟩ _ => ?_⟩⟩
    · have ho : o = true := ho
      refine ⟨[], [], rfl, rfl, ⟨⟨fun j => [-1, 0, 0, 0, 5].getD j 0, fun _ => false, fun _ => .empty, fun _ => .tuple #[], fun _ => Hl.none⟩, rfl, ⟨Int.le_refl _, Int.le_refl _, Int.le_refl _, Int.le_refl _⟩, trivial, trivial⟩, _, _, a, o, R, R1, RA, rows, .slice none 0 0, 5, rfl, rfl, rfl, hc, hB, rfl, ⟨fun _ => rfl, fun h => absurd (ho.symm.trans h) (by simp), fun h => absurd (ho.symm.trans h) (by simp)⟩, fun h => absurd h (by decide)⟩
    · have ho : ¬ o = true := ho
      obtain ⟨u, e, hw, hy1, hy2⟩ := packed_post hB hp1
      simp only [Value.tuple.injEq, Array.mk.injEq, List.cons.injEq, Value.int.injEq, true_and, and_true] at hw
      obtain ⟨eu, ee⟩ := hw
      have hn : -1 ≤ q1.i 8 ∧ 0 ≤ q1.i 9 ∧ 0 ≤ q1.i 10 ∧ 0 ≤ q1.i 11 := hn1.1
      refine ⟨[], [3], rfl, rfl, ⟨⟨fun j => [q1.i 8, q1.i 9, q1.i 10, q1.i 11, q1.i 12].getD j 0, fun _ => false, fun _ => .empty, fun _ => .tuple #[], fun _ => Hl.none⟩, rfl, hn, trivial, trivial⟩, _, _, a, o, R, R1, RA, rows, .slice (slP (q1.i 8) (q1.i 9)) (q1.i 10).toNat (q1.i 11).toNat, q1.i 12, rfl, rfl, rfl, hc, hB, rfl, ⟨fun h => absurd h ho, fun _ h => ?_, fun _ h => ?_⟩, fun h => ?_⟩
      · rw [ee]; exact (hy1 h).1
      · rw [ee]; exact hy2 h
      · show OwB (hls [q1.h 8]) _ _ _
        rw [hls_one, hF1 trivial, eu]
        by_cases hk : packOk rows
        · exact (hy1 hk).2
        · have := hy2 hk; omega
end Go.Proofs.YtomdimlnggpgbaaGreatDoor
namespace Go.Proofs.YtomdimlnggpgbaaGreatDoor
open Go Go.Sx Go.Pk
open Go.Proofs.YtomdimlnggpgbaaGreatDoor.D hiding envI noLoops numS
theorem RowsR.rep {F : Hl} {v : Value} {rows : List (List Int)} (h : RowsR F v rows) : ∃ (x : Int) (c : Nat), -1 ≤ x ∧ v = .slice (slP x 0) rows.length c := by
  obtain ⟨us, ho, _⟩ := h
  rcases ho.2 with ⟨h, hn⟩ | ⟨g, cap, cur, h, _⟩
  · exact ⟨-1, 0, by omega, by rw [slP_nil, hn]; exact h⟩
  · exact ⟨g, cap, by omega, by rw [slP_pos (by omega)]; simpa using h⟩
structure AdR where
  e : Int
  D : DM
  S : SM
def addD (D : DM) (S : SM) (rows : List (List Int)) (r : AR) : AdR :=
  ⟨numC r.e, r.D, ⟨r.L, r.bs, S.LB, S.bB, if numC r.e = 0 then S.recs ++ rows else S.recs, if r.e ≠ 0 ∧ gi r.e = gLost then true else S.over⟩⟩
open Classical in
noncomputable def addR (D : DM) (S : SM) (rows : List (List Int)) : AdR :=
  if S.over = true then ⟨5, D, S⟩
  else if ¬ packOk rows then ⟨3, D, S⟩
  else if rows = [] then ⟨0, D, S⟩
  else if S.LA.most - S.bA.length < (packB rows).length then ⟨4, D, S⟩
  else addD D S rows (appendR D S.LA S.bA (packB rows) S.LA.note)
noncomputable def addS : Sx.Spec where
  fn := 15
  own := [.arg 0, .link 0 0]
  rd := [1, 3000001, 2000000]
  res := [.one (.int .i64)]
  pre := fun xs Hs Rs => ∃ p v H HD R RA RG g dp S D rows, xs = [p, v] ∧ Hs = [H, HD] ∧ Rs = [R, RA, RG] ∧ StoreAt H p dp S ∧ DiskAt HD dp D ∧ RowsB R RA v rows ∧ Gl RG g ∧ rows.length ≤ 1000000 ∧ (∀ r ∈ rows, 0 ≤ r.length) ∧ S.bA.length ≤ 1048576 ∧ 0 ≤ S.LA.serial ∧ S.recs.length ≤ 1000000000
  post := fun xs Hs Rs w Hs' F => ∃ p v H HD R RA RG dp S D rows H' HD', xs = [p, v] ∧ Hs = [H, HD] ∧ Rs = [R, RA, RG] ∧ StoreAt H p dp S ∧ DiskAt HD dp D ∧ RowsB R RA v rows ∧ Hs' = [H', HD'] ∧ DiskAt HD' dp (addR D S rows).D ∧ StoreAt H' p dp (addR D S rows).S ∧ w = .int .i64 (addR D S rows).e
theorem room_of {L : LM} {bs : List Int} {q : Env} {n : Nat} (h : Value.int .i64 (q.i n) = .int .i64 (L.most - bs.length)) : q.i n = L.most - bs.length := by simpa using h
noncomputable def adΓ : List Sx.Spec := [readyS, roomS, lnoteS, appendS, wrappedS, isS, numberE, cloneSS]
theorem adΓ_ok : ∀ t ∈ adΓ, t.OK Tryz.prog := fun t ht => by
  simp only [adΓ, List.mem_cons, List.mem_nil_iff, or_false] at ht
  rcases ht with rfl | rfl | rfl | rfl | rfl | rfl | rfl | rfl
  · exact readyS_ok
  · exact roomS_ok
  · exact lnoteS_ok
  · exact appendS_ok
  · exact wrappedS_ok
  · exact isS_ok
  · exact numberE_ok
  · exact cloneSS_ok
def addNd : Nd := .and (.pre (.call 0 19 [.sv (.one (.hptr (.var 0) (.lit 0))), .sv (.one (.sl (.var 1) (.var 2) (.var 3) (.var 4)))] [] [.blk 0 [.hptr (.var 5) (.lit 0), .hptr (.var 6) (.lit 0), .sl (.var 7) (.lit 0) (.var 8) (.var 9), .bool (.bvar 10)] 101, .ro 16 [.var 1] false, .ro 17 [] true])) (.ext (.call 0 19 [.sv (.one (.hptr (.var 0) (.lit 0))), .sv (.one (.sl (.var 1) (.var 2) (.var 3) (.var 4)))] [] [.blk 0 [.hptr (.var 5) (.lit 0), .hptr (.var 6) (.lit 0), .sl (.var 7) (.lit 0) (.var 8) (.var 9), .bool (.bvar 10)] 101, .ro 16 [.var 1] false, .ro 17 [] true]) (.and (.imp (.eq (.var 23) (.lit 0)) (.and (.e (.le (.lit 0) (.var 3))) (.and (.imp (.eq (.var 3) (.lit 0)) (.post [.blk 0 [.hptr (.var 5) (.lit 0), .hptr (.var 6) (.lit 0), .sl (.var 7) (.lit 0) (.var 8) (.var 9), .bool (.bvar 10)] 101, .hp 12 [] [.var 5] [.var 11], .hp 13 [] [.var 6] [.var 11], .hp 14 [] [.var 7] [], .hp 15 [] [.var 11] [], .ro 16 [.var 1] false, .ro 17 [] true, .ro 18 [.lit 0, .lit 1, .lit 2] false, .hp 19 [] [.var 19] []] (.sv (.one (.int .i64 (.var 23)))))) (.imp (.not (.eq (.var 3) (.lit 0))) (.and (.e (.le (.lit 0) (.var 21))) (.and (.pre (.call 1 24 [.sv (.one (.hptr (.var 5) (.lit 0)))] [] [.hp 12 [] [.var 5] [.var 11]])) (.ext (.call 1 24 [.sv (.one (.hptr (.var 5) (.lit 0)))] [] [.hp 12 [] [.var 5] [.var 11]]) (.and (.imp (.lt (.var 24) (.var 21)) (.post [.blk 0 [.hptr (.var 5) (.lit 0), .hptr (.var 6) (.lit 0), .sl (.var 7) (.lit 0) (.var 8) (.var 9), .bool (.bvar 10)] 101, .hp 12 [] [.var 5] [.var 11], .hp 13 [] [.var 6] [.var 11], .hp 14 [] [.var 7] [], .hp 15 [] [.var 11] [], .ro 16 [.var 1] false, .ro 17 [] true, .ro 18 [.lit 0, .lit 1, .lit 2] false, .hp 19 [] [.var 19] []] (.sv (.one (.int .i64 (.lit 4)))))) (.imp (.not (.lt (.var 24) (.var 21))) (.and (.pre (.call 2 25 [.sv (.one (.hptr (.var 5) (.lit 0)))] [] [.hp 12 [] [.var 5] [.var 11]])) (.ext (.call 2 25 [.sv (.one (.hptr (.var 5) (.lit 0)))] [] [.hp 12 [] [.var 5] [.var 11]]) (.and (.pre (.call 3 41 [.sv (.one (.hptr (.var 5) (.lit 0))), .sv (.one (.sl (.var 19) (.var 20) (.var 21) (.var 22))), .sv (.agg (ckCVs 25 (List.replicate 16 (Ck.int .u8))))] [.hp 12 [] [.var 5] [.var 11], .hp 15 [] [.var 11] []] [.hp 19 [] [.var 19] []])) (.ext (.call 3 41 [.sv (.one (.hptr (.var 5) (.lit 0))), .sv (.one (.sl (.var 19) (.var 20) (.var 21) (.var 22))), .sv (.agg (ckCVs 25 (List.replicate 16 (Ck.int .u8))))] [.hp 12 [] [.var 5] [.var 11], .hp 15 [] [.var 11] []] [.hp 19 [] [.var 19] []]) (.and (.pre (.call 4 44 [.sv (.one (.str (.slit ⟨#[97, 100, 100]⟩))), .sv (.one (.int .i64 (.var 41)))] [] [.ro 18 [.lit 0, .lit 1, .lit 2] false])) (.ext (.call 4 44 [.sv (.one (.str (.slit ⟨#[97, 100, 100]⟩))), .sv (.one (.int .i64 (.var 41)))] [] [.ro 18 [.lit 0, .lit 1, .lit 2] false]) (.and (.e (.his 18 (.lit 0) (.lit 0) 0 .any)) (.and (.pre (.call 5 45 [.sv (.one (.vr 44)), .sv (.one (.hv 18 (.lit 0) (.lit 0) 0))] [] [.ro 18 [.lit 0, .lit 1, .lit 2] false])) (.ext (.call 5 45 [.sv (.one (.vr 44)), .sv (.one (.hv 18 (.lit 0) (.lit 0) 0))] [] [.ro 18 [.lit 0, .lit 1, .lit 2] false]) (.and (.imp (.bvar 45) (.and (.pre (.call 6 46 [.sv (.one (.vr 44))] [] [.ro 18 [.lit 0, .lit 1, .lit 2] false])) (.ext (.call 6 46 [.sv (.one (.vr 44))] [] [.ro 18 [.lit 0, .lit 1, .lit 2] false]) (.and (.imp (.not (.eq (.var 46) (.lit 0))) (.post [.blk 0 [.hptr (.var 5) (.lit 0), .hptr (.var 6) (.lit 0), .sl (.var 7) (.lit 0) (.var 8) (.var 9), .bool .tt] 101, .hp 41 [12] [.var 5] [.var 11], .hp 13 [] [.var 6] [.var 11], .hp 14 [] [.var 7] [], .hp 42 [15] [.var 11] [], .ro 16 [.var 1] false, .ro 17 [] true, .ro 18 [.lit 0, .lit 1, .lit 2] false, .hp 19 [] [.var 19] []] (.sv (.one (.int .i64 (.var 46)))))) (.imp (.eq (.var 46) (.lit 0)) (.and (.inv 0 [⟨60, 0, .int .i64 (.lit 0)⟩, ⟨61, 0, .int .i64 (.var 7)⟩, ⟨62, 0, .int .i64 (.var 8)⟩, ⟨63, 0, .int .i64 (.var 9)⟩, ⟨65, 1, .bool .tt⟩] [(64, some 14)]) (.havoc 0 0 47 (.and (.imp (.lt (.var 60) (.var 3)) (.and (.e (.le (.lit 0) (.var 1))) (.and (.e (.le (.lit 0) (.var 2))) (.and (.e (.le (.lit 0) (.var 60))) (.and (.e (.his 16 (.var 1) (.add (.var 2) (.var 60)) 0 .slice)) (.and (.pre (.call 7 66 [.sv (.one (.sl (.hP 16 (.var 1) (.add (.var 2) (.var 60)) 0 0) (.hP 16 (.var 1) (.add (.var 2) (.var 60)) 0 1) (.hP 16 (.var 1) (.add (.var 2) (.var 60)) 0 2) (.hP 16 (.var 1) (.add (.var 2) (.var 60)) 0 3)))] [] [.ro 17 [] true])) (.ext (.call 7 66 [.sv (.one (.sl (.hP 16 (.var 1) (.add (.var 2) (.var 60)) 0 0) (.hP 16 (.var 1) (.add (.var 2) (.var 60)) 0 1) (.hP 16 (.var 1) (.add (.var 2) (.var 60)) 0 2) (.hP 16 (.var 1) (.add (.var 2) (.var 60)) 0 3)))] [] [.ro 17 [] true]) (.ext (.alloc 70) (.ext (.mrg 71 (.hp 64 [] [.var 61] []) (.hp 66 [] [.var 66] [])) (.and (.pre (.app 72 46 1 24 (.sl (.var 61) (.lit 0) (.var 62) (.var 63)) (.var 62) (.hp 71 [64, 66] [.var 61, .var 66, .var 66] []) (.cvs [.sl (.var 66) (.var 67) (.var 68) (.var 69)] 1))) (.ext (.app 72 46 1 24 (.sl (.var 61) (.lit 0) (.var 62) (.var 63)) (.var 62) (.hp 71 [64, 66] [.var 61, .var 66, .var 66] []) (.cvs [.sl (.var 66) (.var 67) (.var 68) (.var 69)] 1)) (.back 0 0 [⟨60, 0, .int .i64 (.wrap .i64 (.add (.var 60) (.lit 1)))⟩, ⟨61, 0, .int .i64 (.var 72)⟩, ⟨62, 0, .int .i64 (.add (.var 62) (.lit 1))⟩, ⟨63, 0, .int .i64 (.var 73)⟩, ⟨65, 1, .bool (.bvar 65)⟩] [(64, some 72)])))))))))))) (.imp (.not (.lt (.var 60) (.var 3))) (.post [.blk 0 [.hptr (.var 5) (.lit 0), .hptr (.var 6) (.lit 0), .sl (.var 61) (.lit 0) (.var 62) (.var 63), .bool (.bvar 65)] 101, .hp 41 [12] [.var 5] [.var 11], .hp 13 [] [.var 6] [.var 11], .hp 64 [] [.var 61] [], .hp 42 [15] [.var 11] [], .ro 16 [.var 1] false, .ro 17 [] true, .ro 18 [.lit 0, .lit 1, .lit 2] false, .hp 19 [] [.var 19] []] (.sv (.one (.int .i64 (.lit 0)))))))))))))) (.imp (.not (.bvar 45)) (.and (.pre (.call 6 46 [.sv (.one (.vr 44))] [] [.ro 18 [.lit 0, .lit 1, .lit 2] false])) (.ext (.call 6 46 [.sv (.one (.vr 44))] [] [.ro 18 [.lit 0, .lit 1, .lit 2] false]) (.and (.imp (.not (.eq (.var 46) (.lit 0))) (.post [.blk 0 [.hptr (.var 5) (.lit 0), .hptr (.var 6) (.lit 0), .sl (.var 7) (.lit 0) (.var 8) (.var 9), .bool (.bvar 10)] 101, .hp 41 [12] [.var 5] [.var 11], .hp 13 [] [.var 6] [.var 11], .hp 14 [] [.var 7] [], .hp 42 [15] [.var 11] [], .ro 16 [.var 1] false, .ro 17 [] true, .ro 18 [.lit 0, .lit 1, .lit 2] false, .hp 19 [] [.var 19] []] (.sv (.one (.int .i64 (.var 46)))))) (.imp (.eq (.var 46) (.lit 0)) (.and (.inv 0 [⟨60, 0, .int .i64 (.lit 0)⟩, ⟨61, 0, .int .i64 (.var 7)⟩, ⟨62, 0, .int .i64 (.var 8)⟩, ⟨63, 0, .int .i64 (.var 9)⟩, ⟨65, 1, .bool (.bvar 10)⟩] [(64, some 14)]) (.havoc 0 0 47 (.and (.imp (.lt (.var 60) (.var 3)) (.and (.e (.le (.lit 0) (.var 1))) (.and (.e (.le (.lit 0) (.var 2))) (.and (.e (.le (.lit 0) (.var 60))) (.and (.e (.his 16 (.var 1) (.add (.var 2) (.var 60)) 0 .slice)) (.and (.pre (.call 7 66 [.sv (.one (.sl (.hP 16 (.var 1) (.add (.var 2) (.var 60)) 0 0) (.hP 16 (.var 1) (.add (.var 2) (.var 60)) 0 1) (.hP 16 (.var 1) (.add (.var 2) (.var 60)) 0 2) (.hP 16 (.var 1) (.add (.var 2) (.var 60)) 0 3)))] [] [.ro 17 [] true])) (.ext (.call 7 66 [.sv (.one (.sl (.hP 16 (.var 1) (.add (.var 2) (.var 60)) 0 0) (.hP 16 (.var 1) (.add (.var 2) (.var 60)) 0 1) (.hP 16 (.var 1) (.add (.var 2) (.var 60)) 0 2) (.hP 16 (.var 1) (.add (.var 2) (.var 60)) 0 3)))] [] [.ro 17 [] true]) (.ext (.alloc 70) (.ext (.mrg 71 (.hp 64 [] [.var 61] []) (.hp 66 [] [.var 66] [])) (.and (.pre (.app 72 46 1 24 (.sl (.var 61) (.lit 0) (.var 62) (.var 63)) (.var 62) (.hp 71 [64, 66] [.var 61, .var 66, .var 66] []) (.cvs [.sl (.var 66) (.var 67) (.var 68) (.var 69)] 1))) (.ext (.app 72 46 1 24 (.sl (.var 61) (.lit 0) (.var 62) (.var 63)) (.var 62) (.hp 71 [64, 66] [.var 61, .var 66, .var 66] []) (.cvs [.sl (.var 66) (.var 67) (.var 68) (.var 69)] 1)) (.back 0 0 [⟨60, 0, .int .i64 (.wrap .i64 (.add (.var 60) (.lit 1)))⟩, ⟨61, 0, .int .i64 (.var 72)⟩, ⟨62, 0, .int .i64 (.add (.var 62) (.lit 1))⟩, ⟨63, 0, .int .i64 (.var 73)⟩, ⟨65, 1, .bool (.bvar 65)⟩] [(64, some 72)])))))))))))) (.imp (.not (.lt (.var 60) (.var 3))) (.post [.blk 0 [.hptr (.var 5) (.lit 0), .hptr (.var 6) (.lit 0), .sl (.var 61) (.lit 0) (.var 62) (.var 63), .bool (.bvar 65)] 101, .hp 41 [12] [.var 5] [.var 11], .hp 13 [] [.var 6] [.var 11], .hp 64 [] [.var 61] [], .hp 42 [15] [.var 11] [], .ro 16 [.var 1] false, .ro 17 [] true, .ro 18 [.lit 0, .lit 1, .lit 2] false, .hp 19 [] [.var 19] []] (.sv (.one (.int .i64 (.lit 0))))))))))))))))))))))))))))))))) (.imp (.not (.eq (.var 23) (.lit 0))) (.post [.blk 0 [.hptr (.var 5) (.lit 0), .hptr (.var 6) (.lit 0), .sl (.var 7) (.lit 0) (.var 8) (.var 9), .bool (.bvar 10)] 101, .hp 12 [] [.var 5] [.var 11], .hp 13 [] [.var 6] [.var 11], .hp 14 [] [.var 7] [], .hp 15 [] [.var 11] [], .ro 16 [.var 1] false, .ro 17 [] true, .ro 18 [.lit 0, .lit 1, .lit 2] false, .hp 19 [] [.var 19] []] (.sv (.one (.int .i64 (.var 23))))))))
noncomputable def addW : Walk Tryz.prog adΓ addS.fn where
  Λ := fun p => if lp0 p then some ⟨0, [(51, TI .i64 (.var 60))], [(0, .blk 0 [.hptr (.var 5) (.lit 0), .hptr (.var 6) (.lit 0), .sl (.var 61) (.lit 0) (.var 62) (.var 63), .bool (.bvar 65)] 101), (3, .hp 64 [] [.var 61] [])], 66⟩ else none
  args := [TP (.var 0) (.lit 0), .sv (.one (.sl (.var 1) (.var 2) (.var 3) (.var 4)))]
  mem := [.blk 0 [.hptr (.var 5) (.lit 0), .hptr (.var 6) (.lit 0), .sl (.var 7) (.lit 0) (.var 8) (.var 9), .bool (.bvar 10)] 101, .hp 12 [] [.var 5] [.var 11], .hp 13 [] [.var 6] [.var 11], .hp 14 [] [.var 7] [], .hp 15 [] [.var 11] [], .ro 16 [.var 1] false, .ro 17 [] true, .ro 18 [.lit 0, .lit 1, .lit 2] false]
  nv := 19
  nd := addNd
  ok := by kernel_rfl
theorem adg0 : adΓ[0]? = some readyS := rfl
theorem adg1 : adΓ[1]? = some roomS := rfl
theorem adg2 : adΓ[2]? = some lnoteS := rfl
theorem adg3 : adΓ[3]? = some appendS := rfl
theorem adg4 : adΓ[4]? = some wrappedS := rfl
theorem adg5 : adΓ[5]? = some isS := rfl
theorem adg6 : adΓ[6]? = some numberE := rfl
theorem adg7 : adΓ[7]? = some cloneSS := rfl
theorem adr0 : readyS.res = [.one .sl, .one (.int .i64)] := rfl
theorem adr1 : roomS.res = [.one (.int .i64)] := rfl
theorem adr2 : lnoteS.res = [.agg (u8s 16)] := rfl
theorem adr3 : appendS.res = [.one (.int .i64)] := rfl
theorem adr4 : wrappedS.res = [.one .any] := rfl
theorem adr5 : isS.res = [.one .bool] := rfl
theorem adr6 : numberE.res = [.one (.int .i64)] := rfl
theorem adr7 : cloneSS.res = [.one .sl] := rfl
set_option maxRecDepth 8000 in
theorem addS_ok : addS.OK Tryz.prog := by
  refine spec_of_fn2 (Γ := adΓ) adΓ_ok ?_
  rintro xs Hs Rs hl1 hl2 hdis ⟨p, v, H, HD, R, RA, RG, g, dp, S, D, rows, rfl, rfl, rfl, hAt, hD, hB, hG, hlen, hrow, hbA, hser, hrecs⟩
  obtain ⟨a, pa, pb, sl, HA, HB, HR, rfl, hIn⟩ := id hAt
  obtain ⟨us, x, y, c, rfl, hy, hul, hcell, hrd⟩ := id hB
  obtain ⟨da, s, m, es, clock, hdp, hDi⟩ := id hD
  obtain ⟨rx, rc, hrx, hsl⟩ := hIn.rows.rep
  obtain ⟨aa, _, _, hpa, _⟩ := id hIn.la
  obtain ⟨ab, _, _, hpb, _⟩ := id hIn.lb
  obtain ⟨l1, l2, l3, l4⟩ := hls4_le hIn.d1 hIn.d2 hIn.d3 hIn.d4 hIn.d5 hIn.d6
  rw [← hIn.hl] at l1 l2 l3 l4
  have hHD : H.dis HD := hdis 0 1 _ _ (by decide) rfl rfl
  generalize hρ : envI [(a : Int), x, y, us.length, c, aa, ab, rx, S.recs.length, rc, 0, da] S.over [Hl.none, Hl.none, Hl.none, Hl.none, Hl.none, Hl.none, Hl.none, Hl.none, Hl.none, Hl.none, Hl.none, Hl.none, HA, HB, HR, HD, R, RA, RG] = ρ
  have v0 : ρ.i 0 = a := by rw [← hρ]; rfl
  have v1 : ρ.i 1 = x := by rw [← hρ]; rfl
  have v2 : ρ.i 2 = y := by rw [← hρ]; rfl
  have v3 : ρ.i 3 = us.length := by rw [← hρ]; rfl
  have v4 : ρ.i 4 = c := by rw [← hρ]; rfl
  have v5 : ρ.i 5 = aa := by rw [← hρ]; rfl
  have v6 : ρ.i 6 = ab := by rw [← hρ]; rfl
  have v7 : ρ.i 7 = rx := by rw [← hρ]; rfl
  have v8 : ρ.i 8 = S.recs.length := by rw [← hρ]; rfl
  have v9 : ρ.i 9 = rc := by rw [← hρ]; rfl
  have v11 : ρ.i 11 = da := by rw [← hρ]; rfl
  have b10 : ρ.b 10 = S.over := by rw [← hρ]; rfl
  have w12 : ρ.h 12 = HA := by rw [← hρ]; rfl
  have w13 : ρ.h 13 = HB := by rw [← hρ]; rfl
  have w14 : ρ.h 14 = HR := by rw [← hρ]; rfl
  have w15 : ρ.h 15 = HD := by rw [← hρ]; rfl
  have w16 : ρ.h 16 = R := by rw [← hρ]; rfl
  have w17 : ρ.h 17 = RA := by rw [← hρ]; rfl
  have w18 : ρ.h 18 = RG := by rw [← hρ]; rfl
  clear hρ
  have ea : Value.pointer (slP (aa : Int) 0) = pa := by rw [ptr0, hpa]
  have eb : Value.pointer (slP (ab : Int) 0) = pb := by rw [ptr0, hpb]
  have eBlk : ∀ (q : Env) (cs : CV) (o : E), q.i 0 = a → q.i 5 = aa → q.i 6 = ab → (Res.blk 0 [.hptr (.var 5) (.lit 0), .hptr (.var 6) (.lit 0), cs, .bool o] 101).hl q = sHl a pa pb (cs.ev q) (bev q o) := by
    intro q cs o h0 h5 h6
    show Hl.one (q.i 0).toNat (.cells #[Value.pointer (slP (q.i 5) 0), Value.pointer (slP (q.i 6) 0), cs.ev q, .bool (bev q o)] _ (0, 0)) = _
    rw [h0, h5, h6, ea, eb, Int.toNat_natCast]; rfl
  have e0 : (Res.blk 0 [.hptr (.var 5) (.lit 0), .hptr (.var 6) (.lit 0), .sl (.var 7) (.lit 0) (.var 8) (.var 9), .bool (.bvar 10)] 101).hl ρ = sHl a pa pb sl S.over := by
    rw [eBlk ρ _ _ v0 v5 v6, bev_bvar, b10]
    congr 1
    show Value.slice (slP (ρ.i 7) 0) (ρ.i 8).toNat (ρ.i 9).toNat = _
    rw [v7, v8, v9, Int.toNat_natCast, Int.toNat_natCast, hsl]
  refine ⟨addW, ρ, fun _ q => ∃ k : Nat, q.i 60 = k ∧ k ≤ rows.length ∧ -1 ≤ q.i 61 ∧ 0 ≤ q.i 62 ∧ 0 ≤ q.i 63 ∧ q.b 65 = false ∧ RowsR (q.h 64) (.slice (slP (q.i 61) 0) (q.i 62).toNat (q.i 63).toNat) (S.recs ++ rows.take k), fun _ q => (rows.length - q.i 60).toNat, ?_, ⟨?_, ?_, ?_, ?_⟩, (fun _ h => nomatch h), ?_⟩
  · show [Value.pointer (slP (ρ.i 0) 0), Value.slice (slP (ρ.i 1) (ρ.i 2)) (ρ.i 3).toNat (ρ.i 4).toNat] = _
    rw [v0, v1, v2, v3, v4, Int.toNat_natCast, Int.toNat_natCast, ptr0]
  · intro r hr ho
    simp only [addW, List.mem_cons, List.mem_nil_iff, or_false] at hr
    rcases hr with rfl | rfl | rfl | rfl | rfl | rfl | rfl | rfl
    · exact ⟨H, by simp, by rw [e0]; exact l1⟩
    · exact ⟨H, by simp, by show (ρ.h 12).le H; rw [w12]; exact l2⟩
    · exact ⟨H, by simp, by show (ρ.h 13).le H; rw [w13]; exact l3⟩
    · exact ⟨H, by simp, by show (ρ.h 14).le H; rw [w14]; exact l4⟩
    · exact ⟨HD, by simp, by show (ρ.h 15).le HD; rw [w15]; exact Hl.le_refl _⟩
    · cases ho
    · cases ho
    · cases ho
  · intro r hr ho
    simp only [addW, List.mem_cons, List.mem_nil_iff, or_false] at hr
    rcases hr with rfl | rfl | rfl | rfl | rfl | rfl | rfl | rfl
    · cases ho
    · cases ho
    · cases ho
    · cases ho
    · cases ho
    · exact ⟨R, by simp, by show (ρ.h 16).le R; rw [w16]; exact Hl.le_refl _⟩
    · exact ⟨RA, by simp, by show (ρ.h 17).le RA; rw [w17]; exact Hl.le_refl _⟩
    · exact ⟨RG, by simp, by show (ρ.h 18).le RG; rw [w18]; exact Hl.le_refl _⟩
  · have dD : ∀ K : Hl, K.le H → K.dis HD := fun K hK => Hl.dis_symm (Hl.dis_le (Hl.dis_symm hHD) hK)
    have mem4 : addW.mem = [.blk 0 [.hptr (.var 5) (.lit 0), .hptr (.var 6) (.lit 0), .sl (.var 7) (.lit 0) (.var 8) (.var 9), .bool (.bvar 10)] 101, .hp 12 [] [.var 5] [.var 11], .hp 13 [] [.var 6] [.var 11], .hp 14 [] [.var 7] [], .hp 15 [] [.var 11] [], .ro 16 [.var 1] false, .ro 17 [] true, .ro 18 [.lit 0, .lit 1, .lit 2] false] := rfl
    rw [mem4]
    have ro3 : ∀ (l : Mem), (∀ r ∈ l, r.own = false) → ∀ K : Res, ∀ r ∈ l, K.own = true → r.own = true → (K.hl ρ).dis (r.hl ρ) := fun l h K r hr _ ho => by rw [h r hr] at ho; cases ho
    have hro : ∀ r ∈ ([.ro 16 [.var 1] false, .ro 17 [] true, .ro 18 [.lit 0, .lit 1, .lit 2] false] : Mem), r.own = false := by
      intro r hr
      simp only [List.mem_cons, List.mem_nil_iff, or_false] at hr
      rcases hr with rfl | rfl | rfl <;> rfl
    refine List.Pairwise.cons (fun r hr hk ho => ?_) (List.Pairwise.cons (fun r hr hk ho => ?_) (List.Pairwise.cons (fun r hr hk ho => ?_) (List.Pairwise.cons (fun r hr hk ho => ?_) (List.Pairwise.cons (fun r hr hk ho => ro3 _ hro _ r hr hk ho) (List.Pairwise.cons (fun r hr hk ho => by cases hk) (List.Pairwise.cons (fun r hr hk ho => by cases hk) (List.Pairwise.cons (fun r hr => by cases hr) List.Pairwise.nil)))))))
    · rw [e0]
      rw [List.mem_cons, List.mem_cons, List.mem_cons, List.mem_cons] at hr
      rcases hr with rfl | rfl | rfl | rfl | hr
      · show (sHl a pa pb sl S.over).dis (ρ.h 12); rw [w12]; exact hIn.d1
      · show (sHl a pa pb sl S.over).dis (ρ.h 13); rw [w13]; exact hIn.d2
      · show (sHl a pa pb sl S.over).dis (ρ.h 14); rw [w14]; exact hIn.d3
      · show (sHl a pa pb sl S.over).dis (ρ.h 15); rw [w15]; exact dD _ l1
      · rw [hro r hr] at ho; cases ho
    · rw [List.mem_cons, List.mem_cons, List.mem_cons] at hr
      show (ρ.h 12).dis _
      rw [w12]
      rcases hr with rfl | rfl | rfl | hr
      · show HA.dis (ρ.h 13); rw [w13]; exact hIn.d4
      · show HA.dis (ρ.h 14); rw [w14]; exact hIn.d5
      · show HA.dis (ρ.h 15); rw [w15]; exact dD _ l2
      · rw [hro r hr] at ho; cases ho
    · rw [List.mem_cons, List.mem_cons] at hr
      show (ρ.h 13).dis _
      rw [w13]
      rcases hr with rfl | rfl | hr
      · show HB.dis (ρ.h 14); rw [w14]; exact hIn.d6
      · show HB.dis (ρ.h 15); rw [w15]; exact dD _ l3
      · rw [hro r hr] at ho; cases ho
    · rw [List.mem_cons] at hr
      show (ρ.h 14).dis _
      rw [w14]
      rcases hr with rfl | hr
      · show HR.dis (ρ.h 15); rw [w15]; exact dD _ l4
      · rw [hro r hr] at ho; cases ho
  · intro r hr
    simp only [addW, List.mem_cons, List.mem_nil_iff, or_false] at hr
    rcases hr with rfl | rfl | rfl | rfl | rfl | rfl | rfl | rfl
    · show (0 : Int) ≤ ρ.i 0; omega
    all_goals trivial
  · show Nd.holds _ _ _ addNd
    have fin : ∀ (q : Env) (hL hR hK : Nat) (vL vM vR vK : List Nat) (rL rM rR rK kL kM kR kK : List E) (cs : CV) (o rv : E) (t : Mem), Agree 19 ρ q →
        LogAt (q.h hL) pa dp (addR D S rows).S.LA (addR D S rows).S.bA → (addR D S rows).S.LB = S.LB ∧ (addR D S rows).S.bB = S.bB → RowsR (q.h hR) (cs.ev q) (addR D S rows).S.recs → bev q o = (addR D S rows).S.over → DiskAt (q.h hK) dp (addR D S rows).D → iev q rv = (addR D S rows).e →
        postOf addS [.pointer (some ⟨a, 0, none⟩), .slice (slP x y) us.length c] [H, HD] [R, RA, RG] q (.blk 0 [.hptr (.var 5) (.lit 0), .hptr (.var 6) (.lit 0), cs, .bool o] 101 :: .hp hL vL rL kL :: .hp 13 vM rM kM :: .hp hR vR rR kR :: .hp hK vK rK kK :: t) (.sv (.one (.int .i64 rv))) := by
      intro q hL hR hK vL vM vR vK rL rM rR rK kL kM kR kK cs o rv t hg hLq hSB hRq hoq hDq heq hd
      have g0 : q.i 0 = a := by rw [hg.i 0 (by omega), v0]
      have g5 : q.i 5 = aa := by rw [hg.i 5 (by omega), v5]
      have g6 : q.i 6 = ab := by rw [hg.i 6 (by omega), v6]
      have eq0 := eBlk q cs o g0 g5 g6
      rw [hoq] at eq0
      refine ⟨[[0, 1, 2, 3], [4]], [], rfl, rfl, ⟨⟨fun _ => (addR D S rows).e, fun _ => false, fun _ => .empty, fun _ => .tuple #[], fun _ => Hl.none⟩, ?_, trivial, trivial⟩, _, _, H, HD, R, RA, RG, dp, S, D, rows, _, _, rfl, rfl, rfl, hAt, hD, hB, rfl, ?_, ?_, ?_⟩
      · show Value.int .i64 (iev q rv) = .int .i64 (addR D S rows).e
        rw [heq]
      · show DiskAt (hls [q.h hK]) _ _
        rw [hls_one]; exact hDq
      · refine ⟨a, pa, pb, cs.ev q, q.h hL, q.h 13, q.h hR, rfl, hLq, ?_, hRq, ?_, ?_, ?_, hd 1 2 _ _ (by decide) rfl rfl rfl, hd 1 3 _ _ (by decide) rfl rfl rfl, hd 2 3 _ _ (by decide) rfl rfl rfl, ?_⟩
        · rw [hSB.1, hSB.2, hg.h 13 (by omega), w13]; exact hIn.lb
        · rw [← eq0]; exact hd 0 1 _ _ (by decide) rfl rfl rfl
        · rw [← eq0]; exact hd 0 2 _ _ (by decide) rfl rfl rfl
        · rw [← eq0]; exact hd 0 3 _ _ (by decide) rfl rfl rfl
        · rw [← eq0]; rfl
      · show Value.int .i64 (iev q rv) = .int .i64 (addR D S rows).e
        rw [heq]
    unfold addNd
    simp only [Nd.holds, X.pre, X.rel, X.n, Src.ok, Src.len, Src.vals, true_and, and_true, if_true, Nat.mul_one, Nat.add_zero, Nat.reduceAdd, List.length_cons, List.length_nil, bT_tt, bT_ff, bT_bvar, bT_not, bT_and, bT_or, bT_ite, bT_lt, bT_le, bT_eq, bT_beq, bT_seq, bT_hB, bT_his, bT_hby, bT_hism, bT_hks, iev_lit, iev_var, iev_add, iev_sub, iev_mul, iev_wrap, iev_ite, iev_hI, iev_hP, iev_hmlen, sev_ite, sev_slit, sev_sof, sev_svar, TV.ev, SV.ev, CV.ev, List.map_cons, List.map_nil, Res.hl, cpTV, Cp.sv, Ck.cv, cpSVs, Cp.len, Ck.len, newHs_zero, newHs_one, roots_ne, adg0, adg1, adg2, adg3, adg4, adg5, adg6, adg7, adr0, adr1, adr2, adr3, adr4, adr5, adr6, adr7, rsl, rsi]
    have evs : Value.slice (slP (ρ.i 7) 0) (ρ.i 8).toNat (ρ.i 9).toNat = sl := by rw [v7, v8, v9, Int.toNat_natCast, Int.toNat_natCast, hsl]
    have keepL : ∀ q : Env, Agree 19 ρ q → LogAt (q.h 12) pa dp S.LA S.bA ∧ RowsR (q.h 14) (CV.ev q (.sl (.var 7) (.lit 0) (.var 8) (.var 9))) S.recs ∧ bev q (.bvar 10) = S.over ∧ DiskAt (q.h 15) dp D := by
      intro q hg
      refine ⟨by rw [hg.h 12 (by omega), w12]; exact hIn.la, ?_, by rw [bev_bvar, hg.b 10 (by omega), b10], by rw [hg.h 15 (by omega), w15]; exact hD⟩
      show RowsR (q.h 14) (.slice (slP (q.i 7) 0) (q.i 8).toNat (q.i 9).toNat) _
      rw [hg.h 14 (by omega), hg.i 7 (by omega), hg.i 8 (by omega), hg.i 9 (by omega), w14, evs]
      exact hIn.rows
    have same : ∀ (q : Env) (e : Int) (rv : E) (t : Mem), Agree 19 ρ q → addR D S rows = ⟨e, D, S⟩ → iev q rv = e → postOf addS [.pointer (some ⟨a, 0, none⟩), .slice (slP x y) us.length c] [H, HD] [R, RA, RG] q (.blk 0 [.hptr (.var 5) (.lit 0), .hptr (.var 6) (.lit 0), .sl (.var 7) (.lit 0) (.var 8) (.var 9), .bool (.bvar 10)] 101 :: .hp 12 [] [.var 5] [.var 11] :: .hp 13 [] [.var 6] [.var 11] :: .hp 14 [] [.var 7] [] :: .hp 15 [] [.var 11] [] :: t) (.sv (.one (.int .i64 rv))) := by
      intro q e rv t hg he hrv
      obtain ⟨k1, k2, k3, k4⟩ := keepL q hg
      exact fin q 12 14 15 _ _ _ _ _ _ _ _ _ _ _ _ _ _ rv t hg (by rw [he]; exact k1) (by rw [he]; exact ⟨rfl, rfl⟩) (by rw [he]; exact k2) (by rw [he]; exact k3) (by rw [he]; exact k4) (by rw [he]; exact hrv)
    have hp0 : Value.pointer (slP (ρ.i 0) 0) = .pointer (some ⟨a, 0, none⟩) := by rw [v0, ptr0]
    have hv0 : Value.slice (slP (ρ.i 1) (ρ.i 2)) (ρ.i 3).toNat (ρ.i 4).toNat = .slice (slP x y) us.length c := by rw [v1, v2, v3, v4, Int.toNat_natCast, Int.toNat_natCast]
    have hc3 : (sHl a pa pb sl S.over).cell a 3 = some (.bool S.over) := by unfold sHl; rw [Hl.one_cell]; rfl
    have e0' : Hl.one (ρ.i 0).toNat (.cells #[Value.pointer (slP (ρ.i 5) 0), Value.pointer (slP (ρ.i 6) 0), Value.slice (slP (ρ.i 7) 0) (ρ.i 8).toNat (ρ.i 9).toNat, Value.bool (bev ρ (.bvar 10))] 101 (0, 0)) = sHl a pa pb sl S.over := e0
    rw [hp0, hv0, e0', w16, w17]
    refine ⟨⟨_, _, a, S.over, _, R, RA, rows, rfl, rfl, rfl, hc3, hB, hlen, hrow⟩, fun q1 g1 ⟨F1, hp1, hF1, hn1⟩ => ?_⟩
    obtain ⟨u1, e1, hv1, hE1, hO1⟩ := ready_post hc3 hB hp1
    simp only [Value.tuple.injEq, Array.mk.injEq, List.cons.injEq, Value.int.injEq, true_and, and_true] at hv1
    obtain ⟨eu, ee⟩ := hv1
    have hn19 : -1 ≤ q1.i 19 ∧ 0 ≤ q1.i 20 ∧ 0 ≤ q1.i 21 ∧ 0 ≤ q1.i 22 := hn1.1
    refine ⟨fun h23 => ?_, fun h23 => same q1 (q1.i 23) _ _ g1 ?_ (iev_var _ _)⟩
    rotate_left
    · rw [ee] at h23 ⊢
      unfold addR
      cases ho : S.over with
      | true => rw [if_pos rfl, hE1.1 ho]
      | false =>
        rw [if_neg (by simp)]
        by_cases hk : packOk rows
        · exact absurd (hE1.2.1 ho hk) h23
        · rw [if_pos hk, hE1.2.2 ho hk]
    have he0 : e1 = 0 := by rw [← ee]; exact h23
    have ho : ¬ S.over = true := fun h => by have := hE1.1 h; omega
    have hof : S.over = false := Bool.eq_false_iff.2 ho
    have hk : packOk rows := Classical.byContradiction fun h => by have := hE1.2.2 hof h; omega
    have hOw : OwB (q1.h 19) 5 (.slice (slP (q1.i 19) (q1.i 20)) (q1.i 21).toNat (q1.i 22).toNat) (packB rows) := by rw [hF1 trivial, eu]; exact hO1 he0
    have h21 : q1.i 21 = (packB rows).length := (hOw.rd.at hn19.1 hn19.2.1 hn19.2.2.1).1
    rw [g1.i 3 (by omega), v3]
    refine ⟨by omega, fun hz => same q1 0 _ _ g1 ?_ h23, fun hnz => ⟨by omega, ?_⟩⟩
    · have hz : (us.length : Int) = 0 := hz
      have hz2 : rows.length = 0 := by rw [← hul]; omega
      have : rows = [] := List.length_eq_zero_iff.1 hz2
      unfold addR
      rw [if_neg ho, if_neg (fun h => h hk), if_pos this]
    have hne : rows ≠ [] := fun h => by
      have hnz : ¬ (us.length : Int) = 0 := hnz
      rw [h] at hul
      have : us.length = 0 := hul
      omega
    have hpa' : ∀ q : Env, Agree 19 ρ q → Value.pointer (slP (q.i 5) 0) = pa := fun q hg => by rw [hg.i 5 (by omega), v5, ea]
    have kA : ∀ q : Env, Agree 19 ρ q → LogAt (q.h 12) pa dp S.LA S.bA := fun q hg => (keepL q hg).1
    rw [hpa' q1 g1]
    refine ⟨room_pre (kA q1 g1).rd hbA, fun q2 g2 ⟨F2, hp2, _⟩ => ?_⟩
    have G2 : Agree 19 ρ q2 := g1.trans (g2.mono (by omega))
    have h24 : q2.i 24 = S.LA.most - S.bA.length := room_of (room_post (kA q1 g1).rd hp2)
    have h21' : q2.i 21 = (packB rows).length := by rw [g2.i 21 (by omega), h21]
    refine ⟨fun hlt => same q2 4 _ _ G2 ?_ (iev_lit _ _), fun hge => ?_⟩
    · rw [h24, h21'] at hlt
      unfold addR
      rw [if_neg ho, if_neg (fun h => h hk), if_neg hne, if_pos hlt]
    rw [h24, h21'] at hge
    have hAdd : addR D S rows = addD D S rows (appendR D S.LA S.bA (packB rows) S.LA.note) := by
      unfold addR
      rw [if_neg ho, if_neg (fun h => h hk), if_neg hne, if_neg hge]
    generalize hr : appendR D S.LA S.bA (packB rows) S.LA.note = r at hAdd
    rw [hpa' q2 G2]
    refine ⟨lnote_pre (kA q2 G2).rd, fun q3 g3 ⟨F3, hp3, _⟩ => ?_⟩
    have G3 : Agree 19 ρ q3 := G2.trans (g3.mono (by omega))
    have hv3 := lnote_post (kA q2 G2).rd hp3
    have ec3 : (ckCVs 25 (List.replicate 16 (Ck.int .u8))).map (CV.ev q3) = bys S.LA.note := List.toArray_inj (Value.agg.inj hv3)
    have hn16 : S.LA.note.length = 16 := by obtain ⟨_, ⟨_, _, hLi⟩, _⟩ := hIn.la.rd; exact hLi.1.note
    have hRd3 : RdW (q3.h 19) (.slice (slP (q3.i 19) (q3.i 20)) (q3.i 21).toNat (q3.i 22).toNat) (packB rows) := by
      have G13 : Agree 24 q1 q3 := g2.trans (g3.mono (by omega))
      rw [G13.h 19 (by omega), G13.i 19 (by omega), G13.i 20 (by omega), G13.i 21 (by omega), G13.i 22 (by omega)]
      exact hOw.rd.w
    have kD3 : DiskAt (q3.h 15) dp D := (keepL q3 G3).2.2.2
    rw [hpa' q3 G3, ec3]
    refine ⟨⟨_, _, _, _, _, _, _, dp, _, _, _, rfl, rfl, rfl, kA q3 G3, kD3, hRd3, hbA, hn16, hser⟩, fun q4 g4 ⟨F4, hp4, _⟩ => ?_⟩
    obtain ⟨HL4, HD4, hK, hD4, hL4, hv4⟩ := append_post (kA q3 G3) kD3 hRd3 hp4
    rw [hr] at hD4 hL4 hv4
    have hK1 : q4.h 41 = HL4 ∧ q4.h 42 = HD4 := by
      have h1 : [q4.h 41, q4.h 42] = [HL4, HD4] := hK
      simpa using h1
    obtain ⟨hK1, hK2⟩ := hK1
    have h41 : q4.i 41 = r.e := by simpa using hv4
    have G4 : Agree 19 ρ q4 := G3.trans (g4.mono (by omega))
    rw [h41, G4.h 18 (by omega), w18]
    refine ⟨⟨_, _, RG, g, rfl, rfl, hG⟩, fun q5 g5 ⟨F5, ⟨s5, c5, R5, x1, x2, hE5⟩, _⟩ => ?_⟩
    simp only [List.cons.injEq, Value.string.injEq, Value.int.injEq, true_and, and_true] at x1 x2
    obtain ⟨x1, x3⟩ := x1
    subst x1 x2 x3
    have hE5 : ErrAt g (q5.v 44) r.e := hE5 g hG
    have G5 : Agree 19 ρ q5 := G4.trans (g5.mono (by omega))
    have cL : RG.cell (Int.toNat 0) (Int.toNat 0) = some (gv g gLost) := hG.cell gLost (Or.inl rfl)
    rw [G5.h 18 (by omega), w18, cL]
    refine ⟨rfl, ⟨_, _, RG, g, r.e, gLost, rfl, rfl, hG, hE5, Or.inl rfl, rfl⟩, fun q6 g6 ⟨F6, hp6, _⟩ => ?_⟩
    have r6 := is_res hG hE5 (Or.inl rfl) hp6
    rw [r6]
    have G6 : Agree 19 ρ q6 := G5.trans (g6.mono (by omega))
    have hE6 : ErrAt g (q6.v 44) r.e := by rw [g6.v 44 (by omega)]; exact hE5
    have num : ∀ (q7 : Env), Agree 46 q6 q7 → (∃ F, numberE.post [q6.v 44] [] [RG] (.int .i64 (q7.i 46)) [] F ∧ (cpRoots 0 [Cp.one (Ck.int .i64)] ≠ [] → q7.h 46 = F) ∧ cpNorms 46 [Cp.one (Ck.int .i64)] q7) → q7.i 46 = numC r.e ∧ Agree 19 ρ q7 ∧ Agree 43 q4 q7 := by
      intro q7 g7 ⟨F7, ⟨e7, R7, x1, x2, h7⟩, _⟩
      simp only [List.cons.injEq, and_true] at x1 x2
      subst x1 x2
      have := h7 g r.e hG hE6
      exact ⟨by simpa using this, G6.trans (g7.mono (by omega)), (g5.trans ((g6.trans (g7.mono (by omega))).mono (by omega))).mono (by omega)⟩
    rw [G6.h 18 (by omega), w18]
    refine ⟨fun hcl => ⟨⟨_, RG, g, r.e, rfl, rfl, hG, hE6⟩, fun q7 g7 hq7 => ?_⟩, fun hcl => ⟨⟨_, RG, g, r.e, rfl, rfl, hG, hE6⟩, fun q7 g7 hq7 => ?_⟩⟩
    · obtain ⟨hn46, G7, G47⟩ := num q7 g7 hq7
      have hnz46 : ¬ numC r.e = 0 := by
        unfold numC
        rw [if_neg hcl.1, if_neg (by rw [hcl.2]; decide), if_neg (by rw [hcl.2]; decide)]
        decide
      refine ⟨fun _ => ?_, fun h => absurd (hn46.symm.trans h) hnz46⟩
      refine fin q7 41 14 42 _ _ _ _ _ _ _ _ _ _ _ _ (.sl (.var 7) (.lit 0) (.var 8) (.var 9)) _ _ _ G7 ?_ ?_ ?_ ?_ ?_ ?_
      · rw [hAdd, G47.h 41 (by omega), hK1]; exact hL4
      · rw [hAdd]; exact ⟨rfl, rfl⟩
      · rw [hAdd]
        unfold addD
        rw [if_neg hnz46]; exact (keepL q7 G7).2.1
      · rw [hAdd]
        show true = (if _ then true else S.over)
        rw [if_pos hcl]
      · rw [hAdd, G47.h 42 (by omega), hK2]; exact hD4
      · rw [hAdd, iev_var, hn46]; rfl
    · obtain ⟨hn46, G7, G47⟩ := num q7 g7 hq7
      refine ⟨fun hnz46 => ?_, fun h46 => ?_⟩
      · refine fin q7 41 14 42 _ _ _ _ _ _ _ _ _ _ _ _ (.sl (.var 7) (.lit 0) (.var 8) (.var 9)) _ _ _ G7 ?_ ?_ ?_ ?_ ?_ ?_
        · rw [hAdd, G47.h 41 (by omega), hK1]; exact hL4
        · rw [hAdd]; exact ⟨rfl, rfl⟩
        · rw [hAdd]
          unfold addD
          rw [if_neg (fun h => hnz46 (hn46.trans h))]; exact (keepL q7 G7).2.1
        · rw [hAdd, (keepL q7 G7).2.2.1]
          show S.over = (if _ then true else S.over)
          rw [if_neg hcl]
        · rw [hAdd, G47.h 42 (by omega), hK2]; exact hD4
        · rw [hAdd, iev_var, hn46]; rfl
      · clear num
        refine ⟨⟨0, rfl, Nat.zero_le _, by show -1 ≤ q7.i 7; rw [G7.i 7 (by omega), v7]; exact hrx, by show 0 ≤ q7.i 8; rw [G7.i 8 (by omega), v8]; omega, by show 0 ≤ q7.i 9; rw [G7.i 9 (by omega), v9]; omega, ?_, ?_⟩, fun q8 g8 ⟨k, ek, hkl, x61, x62, x63, b65, hRk⟩ => ?_⟩
        · show bev q7 (.bvar 10) = false
          rw [bev_bvar, G7.b 10 (by omega), b10, hof]
        · show RowsR (q7.h 14) (.slice (slP (q7.i 7) 0) (q7.i 8).toNat (q7.i 9).toNat) _
          rw [G7.h 14 (by omega), G7.i 7 (by omega), G7.i 8 (by omega), G7.i 9 (by omega), w14, evs, List.take_zero, List.append_nil]
          exact hIn.rows
        have G8 : Agree 19 ρ q8 := G7.trans (g8.mono (by omega))
        have h62 : q8.i 62 = S.recs.length + k := by
          have := (hRk.at x61 x62).1
          rw [List.length_append, List.length_take] at this
          omega
        rw [G8.i 1 (by omega), G8.i 2 (by omega), G8.i 3 (by omega), G8.h 16 (by omega), G8.h 17 (by omega), v1, v2, v3, w16, w17, ek]
        refine ⟨fun hlt => ?_, fun hge => ?_⟩
        · have hkr : k < rows.length := by omega
          have hrk : rows[k]? = some rows[k] := List.getElem?_eq_getElem hkr
          have hu : us[k]? = some us[k] := List.getElem?_eq_getElem (by omega)
          obtain ⟨hx0, hc⟩ := hcell k _ hu
          have hRr := hrd k _ _ hu hrk
          have hsl : ∃ a l c, us[k] = Value.slice a l c := (RdW.parts hRr).1
          have hck : R.cell x.toNat (y + (k : Int)).toNat = some us[k] := by rw [show (y + (k : Int)).toNat = y.toNat + k by omega]; exact hc
          rw [hck, sl_parts hsl]
          refine ⟨hx0, hy, by omega, by obtain ⟨_, _, _, e⟩ := hsl; rw [e]; rfl, ⟨_, _, RA, rfl, rfl, hRr, Nat.le_trans (hk _ (List.getElem_mem _)) (by decide)⟩, fun q9 g9 ⟨F9, ⟨u9, bs9, R9, x1, x2, hR9, hO9⟩, hF9, hn9⟩ q10 g10 _ q11 g11 ⟨e11, hd11⟩ => ?_⟩
          simp only [List.cons.injEq, and_true] at x1 x2
          subst x1 x2
          obtain rfl := hRr.uniq hR9
          rw [← hF9 trivial] at hO9
          have hn9 : -1 ≤ q9.i 66 ∧ 0 ≤ q9.i 67 ∧ 0 ≤ q9.i 68 ∧ 0 ≤ q9.i 69 := hn9.1
          have G10 : Agree 66 q8 q10 := g9.trans (g10.mono (by omega))
          have G11 : Agree 66 q8 q11 := G10.trans (g11.mono (by omega))
          have G9 : Agree 70 q9 q11 := g10.trans (g11.mono (by omega))
          have hu9 : RowR (q10.h 66) none (.slice (slP (q11.i 66) (q11.i 67)) (q11.i 68).toNat (q11.i 69).toNat) rows[k] := by
            rw [g10.h 66 (by omega), G9.i 66 (by omega), G9.i 67 (by omega), G9.i 68 (by omega), G9.i 69 (by omega)]
            exact RowR.of hO9.rd.w hn9.1 hn9.2.1
          rw [e11, G10.h 64 (by omega), G11.i 61 (by omega), G11.i 62 (by omega), G11.i 63 (by omega)]
          rw [G10.h 64 (by omega)] at hd11
          have hpre : ∃ xs, OwnsH ((q8.h 64).un (q10.h 66)) 46 1 (.slice (slP (q8.i 61) 0) (q8.i 62).toNat (q8.i 63).toNat) (q8.i 62).toNat xs := by
            obtain ⟨us', ho', _⟩ := hRk
            rw [show (q8.i 62).toNat = (S.recs ++ rows.take k).length by rw [List.length_append, List.length_take]; omega] at ho' ⊢
            exact ⟨us', ho'.mono (Hl.un_left _ _)⟩
          refine ⟨⟨hpre, x62, by unfold maxLen; omega, by omega⟩, fun q12 g12 ⟨a1, a2, happ, hkp, _, hnw⟩ => ?_⟩
          have G12 : Agree 66 q8 q12 := G11.trans (g12.mono (by omega))
          have hrows := rowsR_app hRk x61 x62 hd11 hu9 a1 happ hkp hnw
          have e62 : q12.i 62 + 1 = q8.i 62 + 1 := by rw [G12.i 62 (by omega)]
          have e60 : q12.i 60 = k := by rw [G12.i 60 (by omega), ek]
          have w60 : IntKind.i64.wrap (q12.i 60 + 1) = (k : Int) + 1 := by rw [e60]; exact wrap_i64 (by omega) (by omega)
          refine ⟨⟨k + 1, ?_, by omega, a1, ?_, a2, ?_, ?_⟩, ?_⟩
          · show IntKind.i64.wrap (q12.i 60 + 1) = _
            rw [w60]; rfl
          · show 0 ≤ q12.i 62 + 1
            omega
          · show q12.b 65 = false
            rw [G12.b 65 (by omega)]; exact b65
          · show RowsR (q12.h 72) (.slice (slP (q12.i 72) 0) (q12.i 62 + 1).toNat (q12.i 73).toNat) _
            rw [e62, List.take_add_one, hrk, Option.toList_some, ← List.append_assoc]; exact hrows
          · show ((rows.length : Int) - IntKind.i64.wrap (q12.i 60 + 1)).toNat < _
            rw [w60]; omega
        · have hke : k = rows.length := by omega
          subst hke
          rw [List.take_length] at hRk
          refine fin q8 41 64 42 _ _ _ _ _ _ _ _ _ _ _ _ (.sl (.var 61) (.lit 0) (.var 62) (.var 63)) _ _ _ G8 ?_ ?_ ?_ ?_ ?_ ?_
          · rw [hAdd, g8.h 41 (by omega), G47.h 41 (by omega), hK1]; exact hL4
          · rw [hAdd]; exact ⟨rfl, rfl⟩
          · rw [hAdd]
            unfold addD
            rw [if_pos (hn46.symm.trans h46)]; exact hRk
          · rw [bev_bvar, b65, hAdd]
            show false = (if _ then true else S.over)
            rw [if_neg hcl]; exact hof.symm
          · rw [hAdd, g8.h 42 (by omega), G47.h 42 (by omega), hK2]; exact hD4
          · rw [hAdd, iev_lit]
            exact (hn46.symm.trans h46).symm
end Go.Proofs.YtomdimlnggpgbaaGreatDoor
namespace Go.Proofs.YtomdimlnggpgbaaGreatDoor
open Go Go.Sx Go.Pk
open Go.Proofs.YtomdimlnggpgbaaGreatDoor.D hiding envI noLoops numS
theorem ptr_parts {a : Nat} : Value.pointer (slP (valP (some (Value.pointer (some ⟨a, 0, none⟩))) 0) (valP (some (Value.pointer (some ⟨a, 0, none⟩))) 1)) = .pointer (some ⟨a, 0, none⟩) := by
  show Value.pointer (slP ((a : Nat) : Int) 0) = _
  rw [ptr0]
theorem StoreRd.cells {H : Hl} {a : Nat} {dp pa pb sl : Value} {S : SM} (h : StoreRd H a dp pa pb sl S) : H.cell a 0 = some pa ∧ H.cell a 2 = some sl := by
  unfold Hl.cell
  rw [h.blk]
  exact ⟨rfl, rfl⟩
def sroomS : Sx.Spec where
  fn := 21
  own := []
  rd := [0]
  res := [.one (.int .i64)]
  pre := fun xs Hs Rs => ∃ p R dp S, xs = [p] ∧ Rs = [R] ∧ StoreR R p dp S ∧ S.bA.length ≤ 1048576
  post := fun xs Hs Rs v Hs' F => ∃ p R dp S, xs = [p] ∧ Rs = [R] ∧ StoreR R p dp S ∧ v = .int .i64 (S.LA.most - S.bA.length)
def sgenS : Sx.Spec where
  fn := 22
  own := []
  rd := [0]
  res := [.one (.int .u64)]
  pre := fun xs Hs Rs => ∃ p R dp S, xs = [p] ∧ Rs = [R] ∧ StoreR R p dp S
  post := fun xs Hs Rs v Hs' F => ∃ p R dp S, xs = [p] ∧ Rs = [R] ∧ StoreR R p dp S ∧ v = .int .u64 (genI S.LA)
theorem sroom_post {p dp v : Value} {R F : Hl} {K : List Hl} {S : SM} (h : StoreR R p dp S) (hp : sroomS.post [p] [] [R] v K F) : v = .int .i64 (S.LA.most - S.bA.length) := by
  obtain ⟨p', R', dp', S', e1, e2, h', hv⟩ := hp
  simp only [List.cons.injEq, and_true] at e1 e2
  subst e1 e2
  obtain ⟨_, rfl⟩ := h.uniq h'
  exact hv
theorem sgen_post {p dp v : Value} {R F : Hl} {K : List Hl} {S : SM} (h : StoreR R p dp S) (hp : sgenS.post [p] [] [R] v K F) : v = .int .u64 (genI S.LA) := by
  obtain ⟨p', R', dp', S', e1, e2, h', hv⟩ := hp
  simp only [List.cons.injEq, and_true] at e1 e2
  subst e1 e2
  obtain ⟨_, rfl⟩ := h.uniq h'
  exact hv
def srΓ : List Sx.Spec := [roomS]
theorem srΓ_ok : ∀ t ∈ srΓ, t.OK Tryz.prog := fun t ht => by
  simp only [srΓ, List.mem_cons, List.mem_nil_iff, or_false] at ht
  rw [ht]; exact roomS_ok
def sroomNd : Nd := .and (.e (.le (.lit 0) (.var 0))) (.and (.e (.his 1 (.var 0) (.lit 0) 0 .ptr)) (.and (.pre (.call 0 2 [.sv (.one (.hptr (.hP 1 (.var 0) (.lit 0) 0 0) (.hP 1 (.var 0) (.lit 0) 0 1)))] [] [.ro 1 [.var 0] true])) (.ext (.call 0 2 [.sv (.one (.hptr (.hP 1 (.var 0) (.lit 0) 0 0) (.hP 1 (.var 0) (.lit 0) 0 1)))] [] [.ro 1 [.var 0] true]) (.post [.ro 1 [.var 0] true] (.sv (.one (.int .i64 (.var 2))))))))
def sroomW : Walk Tryz.prog srΓ sroomS.fn where
  Λ := noLoops
  args := [TP (.var 0) (.lit 0)]
  mem := [.ro 1 [.var 0] true]
  nv := 2
  nd := sroomNd
  ok := by kernel_rfl
theorem srg0 : srΓ[0]? = some roomS := rfl
theorem sroomS_ok : sroomS.OK Tryz.prog := by
  refine Spec.of_fn (Γ := srΓ) srΓ_ok ?_
  rintro xs Hs Rs hl1 hl2 ⟨p, R, dp, S, rfl, rfl, hS, hb⟩
  have e0 : Hs = [] := List.length_eq_zero_iff.1 hl1
  subst e0
  obtain ⟨a, pa, pb, sl, rfl, hr⟩ := id hS
  obtain ⟨sla, ⟨aa, hpa, _⟩, _⟩ := id hr.la
  have hc := hr.cells.1
  subst hpa
  refine ⟨sroomW, envI [(a : Int)] false [Hl.none, R], fun _ _ => True, fun _ _ => 0, ?_, ⟨?_, ?_, ?_, ?_⟩, (fun _ h => nomatch h), ?_⟩
  · show [Value.pointer (slP (a : Int) 0)] = _; rw [ptr0]
  · intro r hr ho; simp [sroomW] at hr; subst hr; cases ho
  · intro r hr ho; simp [sroomW] at hr; subst hr; exact ⟨R, by simp, Hl.le_refl _⟩
  · simp [sroomW]
  · intro r hr; simp [sroomW] at hr; subst hr; trivial
  · show Nd.holds _ _ _ sroomNd
    generalize hρ : envI [(a : Int)] false [Hl.none, R] = ρ
    have v0 : ρ.i 0 = a := by rw [← hρ]; rfl
    have w1 : ρ.h 1 = R := by rw [← hρ]; rfl
    clear hρ
    have t0 : Int.toNat 0 = 0 := rfl
    unfold sroomNd
    simp only [Nd.holds, X.pre, X.rel, X.n, Src.ok, Src.len, Src.vals, true_and, and_true, if_true, Nat.mul_one, Nat.add_zero, Nat.reduceAdd, List.length_cons, List.length_nil, bT_tt, bT_ff, bT_bvar, bT_not, bT_and, bT_or, bT_ite, bT_lt, bT_le, bT_eq, bT_beq, bT_seq, bT_hB, bT_his, bT_hby, bT_hism, bT_hks, iev_lit, iev_var, iev_add, iev_sub, iev_mul, iev_wrap, iev_ite, iev_hI, iev_hP, iev_hmlen, sev_ite, sev_slit, sev_sof, sev_svar, TV.ev, SV.ev, CV.ev, List.map_cons, List.map_nil, Res.hl, cpTV, Cp.sv, Ck.cv, cpSVs, Cp.len, Ck.len, newHs_zero, newHs_one, roots_ne, srg0, sor0, t0]
    rw [v0, w1, Int.toNat_natCast, hc, ptr_parts]
    refine ⟨by omega, rfl, room_pre hr.la hb, fun q1 g1 ⟨F1, hp1, _⟩ _ => ?_⟩
    have hv := room_of (room_post hr.la hp1)
    refine ⟨[], [], rfl, rfl, ⟨⟨fun _ => q1.i 2, fun _ => false, fun _ => .empty, fun _ => .tuple #[], fun _ => Hl.none⟩, rfl, trivial, trivial⟩, _, R, dp, S, rfl, rfl, hS, ?_⟩
    show Value.int .i64 (q1.i 2) = _
    rw [hv]
def sgΓ : List Sx.Spec := [genS]
theorem sgΓ_ok : ∀ t ∈ sgΓ, t.OK Tryz.prog := fun t ht => by
  simp only [sgΓ, List.mem_cons, List.mem_nil_iff, or_false] at ht
  rw [ht]; exact genS_ok
def sgenNd : Nd := .and (.e (.le (.lit 0) (.var 0))) (.and (.e (.his 1 (.var 0) (.lit 0) 0 .ptr)) (.and (.pre (.call 0 2 [.sv (.one (.hptr (.hP 1 (.var 0) (.lit 0) 0 0) (.hP 1 (.var 0) (.lit 0) 0 1)))] [] [.ro 1 [.var 0] true])) (.ext (.call 0 2 [.sv (.one (.hptr (.hP 1 (.var 0) (.lit 0) 0 0) (.hP 1 (.var 0) (.lit 0) 0 1)))] [] [.ro 1 [.var 0] true]) (.post [.ro 1 [.var 0] true] (.sv (.one (.int .u64 (.var 2))))))))
def sgenW : Walk Tryz.prog sgΓ sgenS.fn where
  Λ := noLoops
  args := [TP (.var 0) (.lit 0)]
  mem := [.ro 1 [.var 0] true]
  nv := 2
  nd := sgenNd
  ok := by kernel_rfl
theorem sgg0 : sgΓ[0]? = some genS := rfl
theorem sgenS_ok : sgenS.OK Tryz.prog := by
  refine Spec.of_fn (Γ := sgΓ) sgΓ_ok ?_
  rintro xs Hs Rs hl1 hl2 ⟨p, R, dp, S, rfl, rfl, hS⟩
  have e0 : Hs = [] := List.length_eq_zero_iff.1 hl1
  subst e0
  obtain ⟨a, pa, pb, sl, rfl, hr⟩ := id hS
  obtain ⟨sla, ⟨aa, hpa, _⟩, _⟩ := id hr.la
  have hc := hr.cells.1
  subst hpa
  refine ⟨sgenW, envI [(a : Int)] false [Hl.none, R], fun _ _ => True, fun _ _ => 0, ?_, ⟨?_, ?_, ?_, ?_⟩, (fun _ h => nomatch h), ?_⟩
  · show [Value.pointer (slP (a : Int) 0)] = _; rw [ptr0]
  · intro r hr ho; simp [sgenW] at hr; subst hr; cases ho
  · intro r hr ho; simp [sgenW] at hr; subst hr; exact ⟨R, by simp, Hl.le_refl _⟩
  · simp [sgenW]
  · intro r hr; simp [sgenW] at hr; subst hr; trivial
  · show Nd.holds _ _ _ sgenNd
    generalize hρ : envI [(a : Int)] false [Hl.none, R] = ρ
    have v0 : ρ.i 0 = a := by rw [← hρ]; rfl
    have w1 : ρ.h 1 = R := by rw [← hρ]; rfl
    clear hρ
    have t0 : Int.toNat 0 = 0 := rfl
    unfold sgenNd
    simp only [Nd.holds, X.pre, X.rel, X.n, Src.ok, Src.len, Src.vals, true_and, and_true, if_true, Nat.mul_one, Nat.add_zero, Nat.reduceAdd, List.length_cons, List.length_nil, bT_tt, bT_ff, bT_bvar, bT_not, bT_and, bT_or, bT_ite, bT_lt, bT_le, bT_eq, bT_beq, bT_seq, bT_hB, bT_his, bT_hby, bT_hism, bT_hks, iev_lit, iev_var, iev_add, iev_sub, iev_mul, iev_wrap, iev_ite, iev_hI, iev_hP, iev_hmlen, sev_ite, sev_slit, sev_sof, sev_svar, TV.ev, SV.ev, CV.ev, List.map_cons, List.map_nil, Res.hl, cpTV, Cp.sv, Ck.cv, cpSVs, Cp.len, Ck.len, newHs_zero, newHs_one, roots_ne, sgg0, sor2, t0]
    rw [v0, w1, Int.toNat_natCast, hc, ptr_parts]
    refine ⟨by omega, rfl, gen_pre hr.la, fun q1 g1 ⟨F1, hp1, _⟩ _ => ?_⟩
    have hv := gen_post hr.la hp1
    exact ⟨[], [], rfl, rfl, ⟨⟨fun _ => q1.i 2, fun _ => false, fun _ => .empty, fun _ => .tuple #[], fun _ => Hl.none⟩, rfl, trivial, trivial⟩, _, R, dp, S, rfl, rfl, hS, hv⟩
def srecS : Sx.Spec where
  fn := 20
  own := []
  rd := [0]
  res := [.one .sl]
  pre := fun xs Hs Rs => ∃ p R dp S, xs = [p] ∧ Rs = [R] ∧ StoreR R p dp S ∧ S.recs.length ≤ 1000000000 ∧ ∀ r ∈ S.recs, r.length ≤ 1000000
  post := fun xs Hs Rs v Hs' F => ∃ p R dp S, xs = [p] ∧ Rs = [R] ∧ StoreR R p dp S ∧ RowsR F v S.recs
theorem srec_post {p dp v : Value} {R F : Hl} {K : List Hl} {S : SM} (h : StoreR R p dp S) (hp : srecS.post [p] [] [R] v K F) : RowsR F v S.recs := by
  obtain ⟨p', R', dp', S', e1, e2, h', hv⟩ := hp
  simp only [List.cons.injEq, and_true] at e1 e2
  subst e1 e2
  obtain ⟨_, rfl⟩ := h.uniq h'
  exact hv
def scΓ : List Sx.Spec := [cloneSS]
theorem scΓ_ok : ∀ t ∈ scΓ, t.OK Tryz.prog := fun t ht => by
  simp only [scΓ, List.mem_cons, List.mem_nil_iff, or_false] at ht
  rw [ht]; exact cloneSS_ok
def srecNd : Nd := .and (.e (.le (.lit 0) (.var 0))) (.and (.e (.his 1 (.var 0) (.lit 2) 0 .slice)) (.and (.e (.le (.lit 0) (.hP 1 (.var 0) (.lit 2) 0 2))) (.and (.inv 0 [⟨53, 0, .int .i64 (.lit (-1))⟩, ⟨54, 0, .int .i64 (.lit 0)⟩, ⟨55, 0, .int .i64 (.lit 0)⟩, ⟨50, 0, .int .i64 (.lit 0)⟩] [(56, none)]) (.havoc 0 0 2 (.and (.imp (.lt (.var 50) (.hP 1 (.var 0) (.lit 2) 0 2)) (.and (.e (.le (.lit 0) (.hP 1 (.var 0) (.lit 2) 0 0))) (.and (.e (.le (.lit 0) (.hP 1 (.var 0) (.lit 2) 0 1))) (.and (.e (.le (.lit 0) (.var 50))) (.and (.e (.his 1 (.hP 1 (.var 0) (.lit 2) 0 0) (.add (.hP 1 (.var 0) (.lit 2) 0 1) (.var 50)) 0 .slice)) (.and (.pre (.call 0 60 [.sv (.one (.sl (.hP 1 (.hP 1 (.var 0) (.lit 2) 0 0) (.add (.hP 1 (.var 0) (.lit 2) 0 1) (.var 50)) 0 0) (.hP 1 (.hP 1 (.var 0) (.lit 2) 0 0) (.add (.hP 1 (.var 0) (.lit 2) 0 1) (.var 50)) 0 1) (.hP 1 (.hP 1 (.var 0) (.lit 2) 0 0) (.add (.hP 1 (.var 0) (.lit 2) 0 1) (.var 50)) 0 2) (.hP 1 (.hP 1 (.var 0) (.lit 2) 0 0) (.add (.hP 1 (.var 0) (.lit 2) 0 1) (.var 50)) 0 3)))] [] [.ro 1 [.var 0] true])) (.ext (.call 0 60 [.sv (.one (.sl (.hP 1 (.hP 1 (.var 0) (.lit 2) 0 0) (.add (.hP 1 (.var 0) (.lit 2) 0 1) (.var 50)) 0 0) (.hP 1 (.hP 1 (.var 0) (.lit 2) 0 0) (.add (.hP 1 (.var 0) (.lit 2) 0 1) (.var 50)) 0 1) (.hP 1 (.hP 1 (.var 0) (.lit 2) 0 0) (.add (.hP 1 (.var 0) (.lit 2) 0 1) (.var 50)) 0 2) (.hP 1 (.hP 1 (.var 0) (.lit 2) 0 0) (.add (.hP 1 (.var 0) (.lit 2) 0 1) (.var 50)) 0 3)))] [] [.ro 1 [.var 0] true]) (.ext (.alloc 64) (.ext (.mrg 65 (.hp 56 [] [.var 53] []) (.hp 60 [] [.var 60] [])) (.and (.pre (.app 66 46 1 24 (.sl (.var 53) (.lit 0) (.var 54) (.var 55)) (.var 54) (.hp 65 [56, 60] [.var 53, .var 60, .var 60] []) (.cvs [.sl (.var 60) (.var 61) (.var 62) (.var 63)] 1))) (.ext (.app 66 46 1 24 (.sl (.var 53) (.lit 0) (.var 54) (.var 55)) (.var 54) (.hp 65 [56, 60] [.var 53, .var 60, .var 60] []) (.cvs [.sl (.var 60) (.var 61) (.var 62) (.var 63)] 1)) (.back 0 0 [⟨53, 0, .int .i64 (.var 66)⟩, ⟨54, 0, .int .i64 (.add (.var 54) (.lit 1))⟩, ⟨55, 0, .int .i64 (.var 67)⟩, ⟨50, 0, .int .i64 (.wrap .i64 (.add (.var 50) (.lit 1)))⟩] [(56, some 66)])))))))))))) (.imp (.not (.lt (.var 50) (.hP 1 (.var 0) (.lit 2) 0 2))) (.post [.ro 1 [.var 0] true, .hp 56 [] [.var 53] []] (.sv (.one (.sl (.var 53) (.lit 0) (.var 54) (.var 55)))))))))))
def srecW : Walk Tryz.prog scΓ srecS.fn where
  Λ := fun p => if lp0 p then some ⟨0, [(11, TI .i64 (.var 50)), (3, .sv (.one (.sl (.var 53) (.lit 0) (.var 54) (.var 55))))], [(1, .hp 56 [] [.var 53] [])], 60⟩ else none
  args := [TP (.var 0) (.lit 0)]
  mem := [.ro 1 [.var 0] true]
  nv := 2
  nd := srecNd
  ok := by kernel_rfl
theorem scg0 : scΓ[0]? = some cloneSS := rfl
theorem srecS_ok : srecS.OK Tryz.prog := by
  refine Spec.of_fn (Γ := scΓ) scΓ_ok ?_
  rintro xs Hs Rs hl1 hl2 ⟨p, R, dp, S, rfl, rfl, hS, hlen, hrow⟩
  have e0 : Hs = [] := List.length_eq_zero_iff.1 hl1
  subst e0
  obtain ⟨a, pa, pb, sl, rfl, hr⟩ := id hS
  have hc := hr.cells.2
  obtain ⟨rx, rc, hrx, rfl⟩ := hr.rows.rep
  have hat := RowsR.at (l := (S.recs.length : Int)) (c := (rc : Int)) (rows := S.recs) (by rw [Int.toNat_natCast, Int.toNat_natCast]; exact hr.rows) hrx (by omega)
  refine ⟨srecW, envI [(a : Int)] false [Hl.none, R], fun _ q => ∃ k : Nat, q.i 50 = k ∧ k ≤ S.recs.length ∧ -1 ≤ q.i 53 ∧ 0 ≤ q.i 54 ∧ 0 ≤ q.i 55 ∧ RowsR (q.h 56) (.slice (slP (q.i 53) 0) (q.i 54).toNat (q.i 55).toNat) (S.recs.take k), fun _ q => (S.recs.length - q.i 50).toNat, ?_, ⟨?_, ?_, ?_, ?_⟩, (fun _ h => nomatch h), ?_⟩
  · show [Value.pointer (slP (a : Int) 0)] = _; rw [ptr0]
  · intro r hr ho; simp [srecW] at hr; subst hr; cases ho
  · intro r hr ho; simp [srecW] at hr; subst hr; exact ⟨R, by simp, Hl.le_refl _⟩
  · simp [srecW]
  · intro r hr; simp [srecW] at hr; subst hr; trivial
  · show Nd.holds _ _ _ srecNd
    generalize hρ : envI [(a : Int)] false [Hl.none, R] = ρ
    have v0 : ρ.i 0 = a := by rw [← hρ]; rfl
    have w1 : ρ.h 1 = R := by rw [← hρ]; rfl
    clear hρ
    have t2 : Int.toNat 2 = 2 := rfl
    unfold srecNd
    simp only [Nd.holds, X.pre, X.rel, X.n, Src.ok, Src.len, Src.vals, true_and, and_true, if_true, Nat.mul_one, Nat.add_zero, Nat.reduceAdd, List.length_cons, List.length_nil, bT_tt, bT_ff, bT_bvar, bT_not, bT_and, bT_or, bT_ite, bT_lt, bT_le, bT_eq, bT_beq, bT_seq, bT_hB, bT_his, bT_hby, bT_hism, bT_hks, iev_lit, iev_var, iev_add, iev_sub, iev_mul, iev_wrap, iev_ite, iev_hI, iev_hP, iev_hmlen, sev_ite, sev_slit, sev_sof, sev_svar, TV.ev, SV.ev, CV.ev, List.map_cons, List.map_nil, Res.hl, cpTV, Cp.sv, Ck.cv, cpSVs, Cp.len, Ck.len, newHs_zero, newHs_one, roots_ne, scg0, adr7, rsl, t2]
    rw [v0, w1, Int.toNat_natCast, hc, valP_sl2 hrx]
    refine ⟨by omega, rfl, by omega, ⟨0, rfl, Nat.zero_le _, Int.le_refl _, Int.le_refl _, Int.le_refl _, RowsR.nil _⟩, fun q8 g8 ⟨k, ek, hkl, x61, x62, x63, hRk⟩ => ?_⟩
    have h62 : q8.i 54 = k := by
      have := (hRk.at x61 x62).1
      rw [List.length_take] at this
      omega
    rw [g8.i 0 (by omega), g8.h 1 (by omega), v0, w1, ek, Int.toNat_natCast, hc, valP_sl2 hrx]
    refine ⟨fun hlt => ?_, fun hge => ?_⟩
    · have hkr : k < S.recs.length := by omega
      have hrk : S.recs[k]? = some S.recs[k] := List.getElem?_eq_getElem hkr
      obtain ⟨hx0, u, hcu, hRu⟩ := hat.2 k _ hrk
      have hRr := hRu.rd
      have hsl : ∃ a l c, u = Value.slice a l c := (RdW.parts hRr).1
      rw [valP_sl0 hrx, valP_sl1 hx0 (Int.le_refl _)]
      have hck : R.cell rx.toNat (0 + (k : Int)).toNat = some u := by rw [show (0 + (k : Int)).toNat = k by omega]; exact hcu
      rw [hck, sl_parts hsl]
      refine ⟨hx0, Int.le_refl _, by omega, by obtain ⟨_, _, _, e⟩ := hsl; rw [e]; rfl, ⟨_, _, R, rfl, rfl, hRr, hrow _ (List.getElem_mem _)⟩, fun q9 g9 ⟨F9, ⟨u9, bs9, R9, x1, x2, hR9, hO9⟩, hF9, hn9⟩ q10 g10 _ q11 g11 ⟨e11, hd11⟩ => ?_⟩
      simp only [List.cons.injEq, and_true] at x1 x2
      subst x1 x2
      obtain rfl := hRr.uniq hR9
      rw [← hF9 trivial] at hO9
      have hn9 : -1 ≤ q9.i 60 ∧ 0 ≤ q9.i 61 ∧ 0 ≤ q9.i 62 ∧ 0 ≤ q9.i 63 := hn9.1
      have G10 : Agree 60 q8 q10 := g9.trans (g10.mono (by omega))
      have G11 : Agree 60 q8 q11 := G10.trans (g11.mono (by omega))
      have G9 : Agree 64 q9 q11 := g10.trans (g11.mono (by omega))
      have hu9 : RowR (q10.h 60) none (.slice (slP (q11.i 60) (q11.i 61)) (q11.i 62).toNat (q11.i 63).toNat) S.recs[k] := by
        rw [g10.h 60 (by omega), G9.i 60 (by omega), G9.i 61 (by omega), G9.i 62 (by omega), G9.i 63 (by omega)]
        exact RowR.of hO9.rd.w hn9.1 hn9.2.1
      rw [e11, G10.h 56 (by omega), G11.i 53 (by omega), G11.i 54 (by omega), G11.i 55 (by omega)]
      rw [G10.h 56 (by omega)] at hd11
      have hpre : ∃ xs, OwnsH ((q8.h 56).un (q10.h 60)) 46 1 (.slice (slP (q8.i 53) 0) (q8.i 54).toNat (q8.i 55).toNat) (q8.i 54).toNat xs := by
        obtain ⟨us', ho', _⟩ := hRk
        rw [show (q8.i 54).toNat = (S.recs.take k).length by rw [List.length_take]; omega] at ho' ⊢
        exact ⟨us', ho'.mono (Hl.un_left _ _)⟩
      refine ⟨⟨hpre, x62, by unfold maxLen; omega, by omega⟩, fun q12 g12 ⟨a1, a2, happ, hkp, _, hnw⟩ => ?_⟩
      have G12 : Agree 60 q8 q12 := G11.trans (g12.mono (by omega))
      have hrows := rowsR_app hRk x61 x62 hd11 hu9 a1 happ hkp hnw
      have e62 : q12.i 54 + 1 = q8.i 54 + 1 := by rw [G12.i 54 (by omega)]
      have e60 : q12.i 50 = k := by rw [G12.i 50 (by omega), ek]
      have w60 : IntKind.i64.wrap (q12.i 50 + 1) = (k : Int) + 1 := by rw [e60]; exact wrap_i64 (by omega) (by omega)
      refine ⟨⟨k + 1, ?_, by omega, a1, ?_, a2, ?_⟩, ?_⟩
      · show IntKind.i64.wrap (q12.i 50 + 1) = _
        rw [w60]; rfl
      · show 0 ≤ q12.i 54 + 1
        omega
      · show RowsR (q12.h 66) (.slice (slP (q12.i 66) 0) (q12.i 54 + 1).toNat (q12.i 67).toNat) _
        rw [e62, List.take_add_one, hrk, Option.toList_some]; exact hrows
      · show ((S.recs.length : Int) - IntKind.i64.wrap (q12.i 50 + 1)).toNat < _
        rw [w60]; omega
    · have hke : k = S.recs.length := by omega
      subst hke
      rw [List.take_length] at hRk
      intro _
      refine ⟨[], [1], rfl, rfl, ⟨⟨fun j => [q8.i 53, 0, q8.i 54, q8.i 55].getD j 0, fun _ => false, fun _ => .empty, fun _ => .tuple #[], fun _ => Hl.none⟩, rfl, ⟨x61, Int.le_refl _, x62, x63⟩, trivial⟩, _, R, dp, S, rfl, rfl, hS, ?_⟩
      show RowsR (hls [q8.h 56]) _ _
      rw [hls_one]; exact hRk
end Go.Proofs.YtomdimlnggpgbaaGreatDoor
