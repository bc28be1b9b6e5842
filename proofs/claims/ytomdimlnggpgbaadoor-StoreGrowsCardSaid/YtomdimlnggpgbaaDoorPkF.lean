/- Layer 5: what is taken out of a text: Text, Flag, Over, as contracts. Condition: bytes below 256, at most a million. -/
import Derived.Test.YtomdimlnggpgbaaDoorPkE
set_option linter.unusedSimpArgs false
set_option linter.unusedVariables false
set_option linter.constructorNameAsVariable false
namespace Go.Proofs.YtomdimlnggpgbaaDoor
open Go Go.Sx Go.Pk

def textS : Sx.Spec where
  fn := 69
  own := [.arg 0]
  rd := []
  res := [.one .sl]
  pre := fun xs Hs Rs => ∃ p most H bs bad, xs = [p, .int .i64 most] ∧ Hs = [H] ∧ InAt H p bs bad ∧ most ≤ 1000000
  post := fun xs Hs Rs v Hs' F => ∃ p most H bs bad H', xs = [p, .int .i64 most] ∧ Hs = [H] ∧ InAt H p bs bad ∧ Hs' = [H'] ∧ InAt H' p (inText bs bad most).2.1 (inText bs bad most).2.2 ∧ OwB F 5 v (inText bs bad most).1
def textNd : Nd := .and (.pre (.call 0 8 [.sv (.one (.hptr (.var 0) (.lit 0)))] [] [.blk 0 [.sl (.var 1) (.var 2) (.var 3) (.var 4), .bool (.bvar 6)] 153, .hp 7 [] [.var 1] []])) (.ext (.call 0 8 [.sv (.one (.hptr (.var 0) (.lit 0)))] [] [.blk 0 [.sl (.var 1) (.var 2) (.var 3) (.var 4), .bool (.bvar 6)] 153, .hp 7 [] [.var 1] []]) (.and (.imp (.not (.bvar 6)) (.and (.imp (.not (.eq (.var 9) (.lit 0))) (.and (.imp (.not (.lt (.var 5) (.lit 0))) (.and (.e (.le (.lit 0) (.var 3))) (.and (.imp (.lt (.wrap .u64 (.ite (.lt (.wrap .i64 (.sub (.var 3) (.var 9))) (.ite (.lt (.lit 4096) (.var 5)) (.lit 4096) (.var 5))) (.wrap .i64 (.sub (.var 3) (.var 9))) (.ite (.lt (.lit 4096) (.var 5)) (.lit 4096) (.var 5)))) (.var 8)) (.post [.blk 0 [.sl (.var 1) (.var 2) (.var 3) (.var 4), .bool .tt] 153, .hp 7 [] [.var 1] []] (.sv (.one (.sl (.lit (-1)) (.lit 0) (.lit 0) (.lit 0)))))) (.imp (.not (.lt (.wrap .u64 (.ite (.lt (.wrap .i64 (.sub (.var 3) (.var 9))) (.ite (.lt (.lit 4096) (.var 5)) (.lit 4096) (.var 5))) (.wrap .i64 (.sub (.var 3) (.var 9))) (.ite (.lt (.lit 4096) (.var 5)) (.lit 4096) (.var 5)))) (.var 8))) (.and (.e (.le (.lit (-1)) (.var 1))) (.and (.e (.le (.lit 0) (.var 2))) (.and (.e (.le (.lit 0) (.var 9))) (.and (.e (.le (.var 9) (.var 3))) (.and (.e (.le (.var 3) (.var 4))) (.and (.imp (.not (.lt (.wrap .i64 (.var 8)) (.lit 0))) (.and (.e (.le (.lit 0) (.sub (.var 3) (.var 9)))) (.and (.imp (.lt (.sub (.var 3) (.var 9)) (.wrap .i64 (.var 8))) (.post [.blk 0 [.sl (.var 1) (.ite (.eq (.var 4) (.var 9)) (.var 2) (.add (.var 2) (.var 9))) (.sub (.var 3) (.var 9)) (.sub (.var 4) (.var 9)), .bool .tt] 153, .hp 7 [] [.var 1] []] (.sv (.one (.sl (.lit (-1)) (.lit 0) (.lit 0) (.lit 0)))))) (.imp (.not (.lt (.sub (.var 3) (.var 9)) (.wrap .i64 (.var 8)))) (.and (.e (.le (.lit 0) (.ite (.eq (.var 4) (.var 9)) (.var 2) (.add (.var 2) (.var 9))))) (.and (.e (.le (.wrap .i64 (.var 8)) (.sub (.var 4) (.var 9)))) (.and (.pre (.call 1 10 [.sv (.one (.sl (.var 1) (.ite (.eq (.var 4) (.var 9)) (.var 2) (.add (.var 2) (.var 9))) (.wrap .i64 (.var 8)) (.sub (.var 4) (.var 9))))] [] [.hp 7 [] [.var 1] []])) (.ext (.call 1 10 [.sv (.one (.sl (.var 1) (.ite (.eq (.var 4) (.var 9)) (.var 2) (.add (.var 2) (.var 9))) (.wrap .i64 (.var 8)) (.sub (.var 4) (.var 9))))] [] [.hp 7 [] [.var 1] []]) (.and (.e (.le (.wrap .i64 (.var 8)) (.sub (.var 3) (.var 9)))) (.and (.e (.le (.sub (.var 3) (.var 9)) (.sub (.var 4) (.var 9)))) (.post [.blk 0 [.sl (.var 1) (.ite (.eq (.sub (.var 4) (.var 9)) (.wrap .i64 (.var 8))) (.ite (.eq (.var 4) (.var 9)) (.var 2) (.add (.var 2) (.var 9))) (.add (.ite (.eq (.var 4) (.var 9)) (.var 2) (.add (.var 2) (.var 9))) (.wrap .i64 (.var 8)))) (.sub (.sub (.var 3) (.var 9)) (.wrap .i64 (.var 8))) (.sub (.sub (.var 4) (.var 9)) (.wrap .i64 (.var 8))), .bool (.bvar 6)] 153, .hp 7 [] [.var 1] [], .hp 10 [] [.var 10] []] (.sv (.one (.sl (.var 10) (.var 11) (.var 12) (.var 13))))))))))))))) (.imp (.lt (.wrap .i64 (.var 8)) (.lit 0)) (.post [.blk 0 [.sl (.var 1) (.ite (.eq (.var 4) (.var 9)) (.var 2) (.add (.var 2) (.var 9))) (.sub (.var 3) (.var 9)) (.sub (.var 4) (.var 9)), .bool .tt] 153, .hp 7 [] [.var 1] []] (.sv (.one (.sl (.lit (-1)) (.lit 0) (.lit 0) (.lit 0)))))))))))))))) (.imp (.lt (.var 5) (.lit 0)) (.post [.blk 0 [.sl (.var 1) (.var 2) (.var 3) (.var 4), .bool .tt] 153, .hp 7 [] [.var 1] []] (.sv (.one (.sl (.lit (-1)) (.lit 0) (.lit 0) (.lit 0)))))))) (.imp (.eq (.var 9) (.lit 0)) (.post [.blk 0 [.sl (.var 1) (.var 2) (.var 3) (.var 4), .bool .tt] 153, .hp 7 [] [.var 1] []] (.sv (.one (.sl (.lit (-1)) (.lit 0) (.lit 0) (.lit 0)))))))) (.imp (.bvar 6) (.post [.blk 0 [.sl (.var 1) (.var 2) (.var 3) (.var 4), .bool .tt] 153, .hp 7 [] [.var 1] []] (.sv (.one (.sl (.lit (-1)) (.lit 0) (.lit 0) (.lit 0))))))))
def textW : Walk Tryd.prog inΓ textS.fn where
  Λ := noLoops
  args := [TP (.var 0) (.lit 0), TI .i64 (.var 5)]
  mem := inMem
  nv := 8
  nd := textNd
  ok := by kernel_rfl
theorem ite_min {a b : Int} : (if a < b then a else b) = min a b := by split <;> omega
theorem textS_ok : textS.OK Tryd.prog := by
  refine Spec.of_fn (Γ := inΓ) inΓ_ok ?_
  rintro xs Hs Rs hl1 hl2 ⟨p, most, H, bs, bad, rfl, rfl, ⟨a, x, y, c, F, rfl, h⟩, hmost⟩
  have e1 : Rs = [] := List.length_eq_zero_iff.1 hl2
  subst e1
  refine ⟨textW, inEnv a x y c bs bad F most, fun _ _ => True, fun _ _ => 0, ?_, inEntry h most, (fun _ h => nomatch h), ?_⟩
  · show [Value.pointer (slP (a : Int) 0), Value.int .i64 most] = _
    rw [ptr0]
  · show Nd.holds _ _ _ textNd
    generalize hρ : inEnv a x y c bs bad F most = ρ
    have v0 : ρ.i 0 = a := by rw [← hρ]; rfl
    have v1 : ρ.i 1 = x := by rw [← hρ]; rfl
    have v2 : ρ.i 2 = y := by rw [← hρ]; rfl
    have v3 : ρ.i 3 = bs.length := by rw [← hρ]; rfl
    have v4 : ρ.i 4 = c := by rw [← hρ]; rfl
    have v5 : ρ.i 5 = most := by rw [← hρ]; rfl
    have b6 : ρ.b 6 = bad := by rw [← hρ]; rfl
    have w7 : ρ.h 7 = F := by rw [← hρ]; rfl
    obtain ⟨hn1, hn2⟩ := numR_le h.byte
    have hrx := h.rx
    have hry := h.ry
    have hrc := h.rc
    have hlen := h.len
    have fail : ∀ (q : Env) (t : Mem), Agree 8 ρ q → bad = true ∨ (numR bs).2 = 0 ∨ most < 0 ∨ min (min most 4096) ((bs.length : Int) - (numR bs).2) < ((numR bs).1 : Int) → postOf textS [.pointer (some ⟨a, 0, none⟩), .int .i64 most] [H] [] q (.blk 0 [.sl (.var 1) (.var 2) (.var 3) (.var 4), .bool .tt] 153 :: .hp 7 [] [.var 1] [] :: t) (.sv (.one (.sl (.lit (-1)) (.lit 0) (.lit 0) (.lit 0)))) := by
      intro q t hq hf _
      have hs : inText bs bad most = ([], bs, true) := by unfold inText; rw [if_pos hf]
      refine ⟨[[0, 1]], [], rfl, rfl, ⟨⟨fun k => if k = 0 then -1 else 0, fun _ => false, fun _ => .empty, fun _ => .tuple #[], fun _ => Hl.none⟩, rfl, ⟨Int.le_refl _, Int.le_refl _, Int.le_refl _, Int.le_refl _⟩, trivial⟩, _, most, H, bs, bad, _, rfl, rfl, ⟨a, x, y, c, F, rfl, h⟩, rfl, ?_, ?_⟩
      · rw [hs]
        have k2 : iev q (.var 2) = y := by rw [iev_var, hq.i 2 (by omega), v2]
        have k3 : iev q (.var 3) = bs.length := by rw [iev_var, hq.i 3 (by omega), v3]
        have k4 : iev q (.var 4) = c := by rw [iev_var, hq.i 4 (by omega), v4]
        rw [← hρ] at hq
        exact inOut h hq k2 k3 k4 rfl hry hrc h.byte (Nat.le_refl _) h.rd
      · rw [hs]; exact ownB_nil _ _
    unfold textNd
    simp only [Nd.holds, X.pre, X.rel, X.n, Src.ok, Src.len, Src.vals, true_and, and_true, if_true, Nat.mul_one, Nat.add_zero, Nat.reduceAdd, List.length_cons, List.length_nil, bT_tt, bT_ff, bT_bvar, bT_not, bT_and, bT_or, bT_ite, bT_lt, bT_le, bT_eq, bT_beq, bT_seq, bT_hB, bT_his, bT_hby, bT_hism, bT_hks, iev_lit, iev_var, iev_add, iev_sub, iev_mul, iev_wrap, iev_ite, iev_hI, iev_hP, iev_hmlen, sev_ite, sev_slit, sev_sof, sev_svar, TV.ev, SV.ev, CV.ev, List.map_cons, List.map_nil, Res.hl, cpTV, Cp.sv, Ck.cv, cpSVs, Cp.len, Ck.len, newHs_zero, newHs_one, roots_ne, ig0, ig1, ir0, ir1, ic1]
    rw [inBlk_hl v0 v1 v2 v3 v4 b6, v0, ptr0, w7]
    refine ⟨⟨_, _, _, bs, bad, rfl, rfl, h.split, h.byte, h.len⟩, fun q g ⟨F1, hp, _, _⟩ => ?_⟩
    have hv := number_post h.split hp
    have hv : q.i 8 = (numR bs).1 ∧ q.i 9 = (numR bs).2 := by simpa using hv
    obtain ⟨h8, h9⟩ := hv
    generalize hm : (numR bs).2 = m at *
    generalize hk : (numR bs).1 = k at *
    have j1 : q.i 1 = x := by rw [g.i 1 (by omega), v1]
    have j2 : q.i 2 = y := by rw [g.i 2 (by omega), v2]
    have j3 : q.i 3 = bs.length := by rw [g.i 3 (by omega), v3]
    have j4 : q.i 4 = c := by rw [g.i 4 (by omega), v4]
    have j5 : q.i 5 = most := by rw [g.i 5 (by omega), v5]
    rw [g.b 6 (by omega), b6, h9, h8, j1, j2, j3, j4, j5]
    rw [wrap_i64 (n := (bs.length : Int) - (m : Int)) (by omega) (by omega)]
    simp only [ite_min]
    have emin : min ((bs.length : Int) - (m : Int)) (min 4096 most) = min (min most 4096) ((bs.length : Int) - (m : Int)) := by omega
    rw [emin]
    refine ⟨fun hb => ⟨fun hz => ⟨fun hmn => ⟨by omega, fun hlt => ?_, fun hge => ?_⟩, fun hmn => fail q _ g (Or.inr (Or.inr (Or.inl hmn)))⟩, fun hz => fail q _ g (Or.inr (Or.inl (by omega)))⟩, fun hb => fail q _ g (Or.inl hb)⟩
    · rw [wu64 (by omega) (by omega)] at hlt
      exact fail q _ g (Or.inr (Or.inr (Or.inr hlt)))
    · rw [wu64 (by omega) (by omega)] at hge
      have hwk : IntKind.i64.wrap (k : Int) = k := wrap_i64 (by omega) (by omega)
      have hY : iev q (.ite (.eq (.var 4) (.var 9)) (.var 2) (.add (.var 2) (.var 9))) = if c = (m : Int) then y else y + m := by
        rw [iev_drop, iev_var, iev_var, iev_var, j4, j2, h9]
      have hYq : ∀ q', Agree 10 q q' → iev q' (.ite (.eq (.var 4) (.var 9)) (.var 2) (.add (.var 2) (.var 9))) = if c = (m : Int) then y else y + m := by
        intro q' g'
        rw [iev_drop, iev_var, iev_var, iev_var, g'.i 4 (by omega), g'.i 2 (by omega), g'.i 9 (by omega), j4, j2, h9]
      rw [hwk]
      refine ⟨hrx, hry, by omega, by omega, hrc, fun _ => ⟨by omega, fun hlt2 => absurd hlt2 (by omega), fun _ => ?_⟩, fun hneg => absurd hneg (by omega)⟩
      have hs : inText bs bad most = ((bs.drop m).take k, bs.drop (m + k), false) := by
        unfold inText
        rw [hm, hk]
        have : ¬ (bad = true ∨ m = 0 ∨ most < 0 ∨ min (min most 4096) ((bs.length : Int) - (m : Int)) < (k : Int)) := by
          rintro (e | e | e | e)
          · exact hb e
          · exact hz (by omega)
          · omega
          · exact hge e
        rw [if_neg this]
      have hmk : m + k ≤ bs.length := by omega
      have ht := rd_take h (m := m) (k := k) hmk (c - m).toNat
      have hd1 := rd_drop h (m := m) (by omega)
      have hdl : ((bs.drop m).length : Int) = bs.length - m := by rw [List.length_drop]; omega
      have hY0 : 0 ≤ (if c = (m : Int) then y else y + m) := by split <;> omega
      have h2 : InIn (hls [inS a x (if c = (m : Int) then y else y + m) (c - m) (bs.drop m).length false, F]) a x (if c = (m : Int) then y else y + m) (c - m) F (bs.drop m) false :=
        ⟨hrx, hY0, by omega, bytes_drop h.byte m, by rw [List.length_drop]; omega, hd1, h.na, rfl⟩
      have hd2 := rd_drop h2 (m := k) (by rw [List.length_drop]; omega)
      rw [List.drop_drop] at hd2
      rw [g.h 7 (by omega), w7]
      refine ⟨hY0, by omega, ⟨_, _, F, rfl, rfl, (by rw [Int.toNat_natCast]; exact ht), by rw [List.length_take, List.length_drop]; omega⟩, fun q2 g2 ⟨F2, hp2, hF2, hnm⟩ => ?_⟩
      have hO := clone_post (R := F) (u := .slice (slP x (if c = (m : Int) then y else y + m)) ((k : Int)).toNat (c - m).toNat) (by rw [Int.toNat_natCast]; exact ht) hp2
      rw [← hF2 trivial] at hO
      have G2 : Agree 8 ρ q2 := g.trans (g2.mono (by omega))
      rw [g2.i 8 (by omega), g2.i 9 (by omega), G2.i 3 (by omega), G2.i 4 (by omega), h8, h9, v3, v4, hwk]
      refine ⟨by omega, by omega, fun _ => ?_⟩
      have eC : iev q2 (.sub (.var 4) (.var 9)) = c - m := by
        show q2.i 4 - q2.i 9 = _
        rw [G2.i 4 (by omega), g2.i 9 (by omega), v4, h9]
      have eN : iev q2 (.sub (.var 3) (.var 9)) = bs.length - m := by
        show q2.i 3 - q2.i 9 = _
        rw [G2.i 3 (by omega), g2.i 9 (by omega), v3, h9]
      have eK : iev q2 (.wrap .i64 (.var 8)) = k := by
        show IntKind.i64.wrap (q2.i 8) = _
        rw [g2.i 8 (by omega), h8, hwk]
      have hlast : ((bs.drop (m + k)).length : Int) = bs.length - m - k := by rw [List.length_drop]; omega
      have g6 : bev q2 (.bvar 6) = false := by rw [bev_bvar, G2.b 6 (by omega), b6]; exact Bool.eq_false_iff.2 hb
      rw [← hρ] at G2
      refine ⟨[[0, 1]], [2], rfl, rfl, ⟨⟨fun k => q2.i (10 + k), fun _ => false, fun _ => .empty, fun _ => .tuple #[], fun _ => Hl.none⟩, rfl, hnm.1, trivial⟩, _, most, H, bs, bad, _, rfl, rfl, ⟨a, x, y, c, F, rfl, h⟩, rfl, ?_, ?_⟩
      · rw [hs]
        refine inOut h G2 ?_ ?_ ?_ g6 (y' := if c - (m : Int) = k then (if c = (m : Int) then y else y + m) else (if c = (m : Int) then y else y + m) + k) (by split <;> omega) (c' := c - m - k) (by rw [hlast]; omega) (bytes_drop h.byte _) (by rw [List.length_drop]; omega) hd2
        · rw [iev_drop, eC, eK, hYq q2 g2]
        · rw [iev_sub, eN, eK, hlast]
        · rw [iev_sub, eC, eK]
      · rw [hs]
        show OwB (hls [q2.h 10]) _ _ _
        rw [hls_one]; exact hO
/-! ### Flag, Over -/
def flagS : Sx.Spec where
  fn := 117
  own := [.arg 0]
  rd := []
  res := [.one .bool]
  pre := fun xs Hs Rs => ∃ p H bs bad, xs = [p] ∧ Hs = [H] ∧ InAt H p bs bad
  post := fun xs Hs Rs v Hs' F => ∃ p H bs bad H', xs = [p] ∧ Hs = [H] ∧ InAt H p bs bad ∧ Hs' = [H'] ∧ InAt H' p (inFlag bs bad).2.1 (inFlag bs bad).2.2 ∧ v = .bool (inFlag bs bad).1
def flagNd : Nd := .and (.imp (.not (.bvar 6)) (.and (.e (.le (.lit 0) (.var 3))) (.and (.imp (.not (.eq (.var 3) (.lit 0))) (.and (.e (.le (.lit 0) (.var 1))) (.and (.e (.le (.lit 0) (.var 2))) (.and (.e (.lt (.lit 0) (.var 3))) (.and (.e (.his 7 (.var 1) (.var 2) 0 (.int .u8))) (.and (.imp (.lt (.lit 1) (.hI 7 (.var 1) (.var 2) 0)) (.post [.blk 0 [.sl (.var 1) (.var 2) (.var 3) (.var 4), .bool .tt] 153, .hp 7 [] [.var 1] []] (.sv (.one (.bool .ff))))) (.imp (.not (.lt (.lit 1) (.hI 7 (.var 1) (.var 2) 0))) (.and (.e (.le (.var 3) (.var 4))) (.post [.blk 0 [.sl (.var 1) (.ite (.eq (.var 4) (.lit 1)) (.var 2) (.add (.var 2) (.lit 1))) (.sub (.var 3) (.lit 1)) (.sub (.var 4) (.lit 1)), .bool (.bvar 6)] 153, .hp 7 [] [.var 1] []] (.sv (.one (.bool (.eq (.hI 7 (.var 1) (.var 2) 0) (.lit 1)))))))))))))) (.imp (.eq (.var 3) (.lit 0)) (.post [.blk 0 [.sl (.var 1) (.var 2) (.var 3) (.var 4), .bool .tt] 153, .hp 7 [] [.var 1] []] (.sv (.one (.bool .ff)))))))) (.imp (.bvar 6) (.post [.blk 0 [.sl (.var 1) (.var 2) (.var 3) (.var 4), .bool .tt] 153, .hp 7 [] [.var 1] []] (.sv (.one (.bool .ff)))))
def flagW : Walk Tryd.prog inΓ flagS.fn where
  Λ := noLoops
  args := [TP (.var 0) (.lit 0)]
  mem := inMem
  nv := 8
  nd := flagNd
  ok := by kernel_rfl
theorem flagS_ok : flagS.OK Tryd.prog := by
  refine Spec.of_fn (Γ := inΓ) inΓ_ok ?_
  rintro xs Hs Rs hl1 hl2 ⟨p, H, bs, bad, rfl, rfl, a, x, y, c, F, rfl, h⟩
  have e1 : Rs = [] := List.length_eq_zero_iff.1 hl2
  subst e1
  refine ⟨flagW, inEnv a x y c bs bad F 0, fun _ _ => True, fun _ _ => 0, ?_, inEntry h 0, (fun _ h => nomatch h), ?_⟩
  · show [Value.pointer (slP (a : Int) 0)] = _
    rw [ptr0]
  · show Nd.holds _ _ _ flagNd
    generalize hρ : inEnv a x y c bs bad F 0 = ρ
    have v1 : ρ.i 1 = x := by rw [← hρ]; rfl
    have v2 : ρ.i 2 = y := by rw [← hρ]; rfl
    have v3 : ρ.i 3 = bs.length := by rw [← hρ]; rfl
    have v4 : ρ.i 4 = c := by rw [← hρ]; rfl
    have b6 : ρ.b 6 = bad := by rw [← hρ]; rfl
    have w7 : ρ.h 7 = F := by rw [← hρ]; rfl
    have hrx := h.rx
    have hry := h.ry
    have hrc := h.rc
    have hq : Agree 8 (inEnv a x y c bs bad F 0) ρ := by rw [hρ]; exact Agree.refl _ _
    have fail : ∀ (t : Mem), bad = true ∨ bs = [] ∨ 1 < bs.getD 0 0 → postOf flagS [.pointer (some ⟨a, 0, none⟩)] [H] [] ρ (.blk 0 [.sl (.var 1) (.var 2) (.var 3) (.var 4), .bool .tt] 153 :: .hp 7 [] [.var 1] [] :: t) (.sv (.one (.bool .ff))) := by
      intro t hf _
      have hs : inFlag bs bad = (false, bs, true) := by unfold inFlag; rw [if_pos hf]
      refine ⟨[[0, 1]], [], rfl, rfl, ⟨⟨fun _ => 0, fun _ => false, fun _ => .empty, fun _ => .tuple #[], fun _ => Hl.none⟩, rfl, trivial, trivial⟩, _, H, bs, bad, _, rfl, rfl, ⟨a, x, y, c, F, rfl, h⟩, rfl, ?_, by rw [hs]; rfl⟩
      rw [hs]
      exact inOut h hq (show iev ρ (.var 2) = y from v2) (show iev ρ (.var 3) = _ from v3) (show iev ρ (.var 4) = c from v4) rfl hry hrc h.byte (Nat.le_refl _) h.rd
    unfold flagNd
    simp only [Nd.holds, X.pre, X.rel, X.n, Src.ok, Src.len, Src.vals, true_and, and_true, if_true, Nat.mul_one, Nat.add_zero, Nat.reduceAdd, List.length_cons, List.length_nil, bT_tt, bT_ff, bT_bvar, bT_not, bT_and, bT_or, bT_ite, bT_lt, bT_le, bT_eq, bT_beq, bT_seq, bT_hB, bT_his, bT_hby, bT_hism, bT_hks, iev_lit, iev_var, iev_add, iev_sub, iev_mul, iev_wrap, iev_ite, iev_hI, iev_hP, iev_hmlen, sev_ite, sev_slit, sev_sof, sev_svar, TV.ev, SV.ev, CV.ev, List.map_cons, List.map_nil, Res.hl]
    rw [b6, v1, v2, v3, v4, w7]
    refine ⟨fun hb => ⟨by omega, fun hn0 => ?_, fun hn0 => fail _ (Or.inr (Or.inl (List.length_eq_zero_iff.1 (by omega))))⟩, fun hb => fail _ (Or.inl hb)⟩
    obtain ⟨z, hz⟩ : ∃ z, bs[0]? = some z := ⟨_, List.getElem?_eq_getElem (by omega)⟩
    obtain ⟨hx0, hc⟩ : 0 ≤ x ∧ ∀ j z, bs[j]? = some z → F.cell x.toNat (y.toNat + j) = some (.int .u8 z) := by
      rcases (h.rd.at hrx hry (by omega)).2 with ⟨_, e⟩ | e
      · rw [e] at hz; simp at hz
      · exact e
    have hcell := hc 0 z hz
    rw [Nat.add_zero] at hcell
    have hzD : bs.getD 0 0 = z := by rw [List.getD_eq_getElem?_getD, hz]; rfl
    rw [hcell]
    have ez : valI (some (Value.int .u8 z)) = z := rfl
    rw [ez]
    refine ⟨hx0, hry, by omega, rfl, fun hgt => fail _ (Or.inr (Or.inr (by rw [hzD]; exact hgt))), fun hle => ⟨hrc, fun _ => ?_⟩⟩
    have hs : inFlag bs bad = (decide (z = 1), bs.drop 1, false) := by
      unfold inFlag
      rw [hzD]
      have : ¬ (bad = true ∨ bs = [] ∨ 1 < z) := by
        rintro (e | e | e)
        · exact hb e
        · rw [e] at hz; simp at hz
        · exact hle e
      rw [if_neg this]
    have hbv : bev ρ (.eq (.hI 7 (.var 1) (.var 2) 0) (.lit 1)) = decide (z = 1) := by
      rw [bev_eq, iev_hI, iev_var, iev_var, iev_lit, v1, v2, w7, Nat.add_zero, hcell]; rfl
    have hd1 := rd_drop h (m := 1) (by omega)
    have hdl : ((bs.drop 1).length : Int) = bs.length - 1 := by rw [List.length_drop]; omega
    refine ⟨[[0, 1]], [], rfl, rfl, ⟨⟨fun _ => 0, fun _ => decide (z = 1), fun _ => .empty, fun _ => .tuple #[], fun _ => Hl.none⟩, by show Value.bool (bev ρ _) = _; rw [hbv]; rfl, trivial, trivial⟩, _, H, bs, bad, _, rfl, rfl, ⟨a, x, y, c, F, rfl, h⟩, rfl, ?_, by show Value.bool (bev ρ _) = _; rw [hbv, hs]⟩
    rw [hs]
    refine inOut h hq ?_ ?_ ?_ (by rw [bev_bvar, b6]; exact Bool.eq_false_iff.2 hb) (y' := if c = ((1 : Nat) : Int) then y else y + ((1 : Nat) : Int)) (by split <;> omega) (c' := c - ((1 : Nat) : Int)) (by rw [hdl]; omega) (bytes_drop h.byte _) (by rw [List.length_drop]; omega) hd1
    · rw [iev_drop, iev_var, iev_var, iev_lit, v4, v2]; rfl
    · show ρ.i 3 - 1 = _
      rw [hdl, v3]
    · show ρ.i 4 - 1 = _
      rw [v4]; rfl
def overS : Sx.Spec where
  fn := 52
  own := []
  rd := [0]
  res := [.one .bool]
  pre := fun xs Hs Rs => ∃ p R bs bad, xs = [p] ∧ Rs = [R] ∧ InAt R p bs bad
  post := fun xs Hs Rs v Hs' F => ∃ p R bs bad, xs = [p] ∧ Rs = [R] ∧ InAt R p bs bad ∧ v = .bool (!bad && decide (bs = []))
def overNd : Nd := .and (.e (.le (.lit 0) (.var 0))) (.and (.e (.his 1 (.var 0) (.lit 1) 0 .bool)) (.and (.imp (.not (.hB 1 (.var 0) (.lit 1) 0)) (.and (.e (.his 1 (.var 0) (.lit 0) 0 .slice)) (.and (.e (.le (.lit 0) (.hP 1 (.var 0) (.lit 0) 0 2))) (.post [.ro 1 [.var 0] false] (.sv (.one (.bool (.eq (.hP 1 (.var 0) (.lit 0) 0 2) (.lit 0))))))))) (.imp (.hB 1 (.var 0) (.lit 1) 0) (.post [.ro 1 [.var 0] false] (.sv (.one (.bool .ff)))))))
def overW : Walk Tryd.prog [] overS.fn where
  Λ := noLoops
  args := [TP (.var 0) (.lit 0)]
  mem := [.ro 1 [.var 0] false]
  nv := 2
  nd := overNd
  ok := by kernel_rfl
theorem overS_ok : overS.OK Tryd.prog := by
  refine Spec.of_fn (Γ := []) (fun _ h => by cases h) ?_
  rintro xs Hs Rs hl1 hl2 ⟨p, R, bs, bad, rfl, rfl, hIn⟩
  have e0 : Hs = [] := List.length_eq_zero_iff.1 hl1
  subst e0
  obtain ⟨a, x, y, c, rfl, hc0, hc1, hx, hy, hR⟩ := hIn.whole
  refine ⟨overW, envI [(a : Int)] false [Hl.none, R], fun _ _ => True, fun _ _ => 0, ?_, ⟨?_, ?_, ?_, ?_⟩, (fun _ h => nomatch h), ?_⟩
  · show [Value.pointer (slP (a : Int) 0)] = _
    rw [ptr0]
  · intro r hr ho; simp [overW] at hr; subst hr; cases ho
  · intro r hr ho; simp [overW] at hr; subst hr; exact ⟨R, by simp, Hl.le_refl _⟩
  · simp [overW]
  · intro r hr; simp [overW] at hr; subst hr; trivial
  · show Nd.holds _ _ _ overNd
    generalize hρ : envI [(a : Int)] false [Hl.none, R] = ρ
    have v0 : ρ.i 0 = a := by rw [← hρ]; rfl
    have w1 : ρ.h 1 = R := by rw [← hρ]; rfl
    clear hρ
    have out : ∀ (mem : Mem) (e : E), bev ρ e = (!bad && decide (bs = [])) → postOf overS [.pointer (some ⟨a, 0, none⟩)] [] [R] ρ mem (.sv (.one (.bool e))) := fun mem e he _ =>
      ⟨[], [], rfl, rfl, ⟨⟨fun _ => 0, fun _ => bev ρ e, fun _ => .empty, fun _ => .tuple #[], fun _ => Hl.none⟩, rfl, trivial, trivial⟩, _, R, bs, bad, rfl, rfl, hIn, by show Value.bool (bev ρ e) = _; rw [he]⟩
    have tn0 : Int.toNat 0 = 0 := rfl
    have tn1 : Int.toNat 1 = 1 := rfl
    unfold overNd
    simp only [Nd.holds, X.pre, X.rel, X.n, Src.ok, Src.len, Src.vals, true_and, and_true, if_true, Nat.mul_one, Nat.add_zero, Nat.reduceAdd, List.length_cons, List.length_nil, bT_tt, bT_ff, bT_bvar, bT_not, bT_and, bT_or, bT_ite, bT_lt, bT_le, bT_eq, bT_beq, bT_seq, bT_hB, bT_his, bT_hby, bT_hism, bT_hks, iev_lit, iev_var, iev_add, iev_sub, iev_mul, iev_wrap, iev_ite, iev_hI, iev_hP, iev_hmlen, sev_ite, sev_slit, sev_sof, sev_svar, TV.ev, SV.ev, CV.ev, List.map_cons, List.map_nil, Res.hl, tn0, tn1]
    rw [v0, w1, Int.toNat_natCast, hc0, hc1, sl2 hx]
    refine ⟨by omega, rfl, fun hb => ⟨rfl, by omega, out _ _ ?_⟩, fun hb => out _ _ ?_⟩
    · have hb : bad = false := Bool.eq_false_iff.2 hb
      rw [bev_eq, iev_hP, iev_var, iev_lit, v0, w1, Int.toNat_natCast, tn0, Nat.add_zero, hc0, sl2 hx, hb]
      cases bs with
      | nil => rfl
      | cons b l =>
        simp
        omega
    · have hb : bad = true := hb
      rw [hb]; rfl
end Go.Proofs.YtomdimlnggpgbaaDoor
