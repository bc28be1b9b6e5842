/- Layer 5: what is taken out of a text: Read, Raw, Text, Flag, Over, as contracts. Condition: bytes below 256, at most a million. -/
import Derived.Test.YtomdimlnggpgbaaDoorPkD
set_option linter.unusedSimpArgs false
set_option linter.unusedVariables false
set_option linter.constructorNameAsVariable false
namespace Go.Proofs.YtomdimlnggpgbaaDoor
open Go Go.Sx Go.Pk

/-! ### Read -/
def readPNd : Nd := .and (.pre (.call 1 5 [.sv (.one (.sl (.var 0) (.var 1) (.var 2) (.var 3)))] [] [.ro 4 [.var 0] false])) (.ext (.call 1 5 [.sv (.one (.sl (.var 0) (.var 1) (.var 2) (.var 3)))] [] [.ro 4 [.var 0] false]) (.ext (.alloc 9) (.post [.ro 4 [.var 0] false, .hp 5 [] [.var 5] [], .blk 9 [.sl (.var 5) (.var 6) (.var 7) (.var 8), .bool .ff] 153] (.sv (.one (.hptr (.var 9) (.lit 0)))))))
def readPW : Walk Tryd.prog inΓ readPS.fn where
  Λ := noLoops
  args := [.sv (.one (.sl (.var 0) (.var 1) (.var 2) (.var 3)))]
  mem := [.ro 4 [.var 0] false]
  nv := 5
  nd := readPNd
  ok := by kernel_rfl
theorem clone_post {u v : Value} {bs : List Int} {R F : Hl} {Hs K : List Hl} (h : RdW R u bs) (hp : cloneBS.post [u] Hs [R] v K F) : OwB F 5 v bs := by
  obtain ⟨u', bs', R', hx, hR, hB, hO⟩ := hp
  have hx : u = u' := by simpa using hx
  have hR : R = R' := by simpa using hR
  subst hx hR
  rw [h.uniq hB]; exact hO
theorem owB_cap {F : Hl} {e : TypeId} {x y l c : Int} {bs : List Int} (h : OwB F e (.slice (slP x y) l.toNat c.toNat) bs) (hl : 0 ≤ l) (hc : 0 ≤ c) : l ≤ c := by
  obtain ⟨_, h⟩ := h
  rcases h with ⟨h, _⟩ | ⟨g, cap, cur, h, _, hle, _⟩
  · simp only [Value.slice.injEq] at h; omega
  · simp only [Value.slice.injEq] at h; omega
theorem readPS_ok : readPS.OK Tryd.prog := by
  refine Spec.of_fn (Γ := inΓ) inΓ_ok ?_
  rintro xs Hs Rs hl1 hl2 ⟨u, bs, R, rfl, rfl, hRd, hby, hlen⟩
  have e0 : Hs = [] := List.length_eq_zero_iff.1 hl1
  subst e0
  obtain ⟨x, y, c, rfl, hy, hR⟩ := id hRd
  refine ⟨readPW, envI [x, y, bs.length, c] false [Hl.none, Hl.none, Hl.none, Hl.none, R], fun _ _ => True, fun _ _ => 0, ?_, ⟨?_, ?_, ?_, ?_⟩, (fun _ h => nomatch h), ?_⟩
  · show [Value.slice (slP x y) ((bs.length : Int)).toNat ((c : Int)).toNat] = _
    rw [Int.toNat_natCast, Int.toNat_natCast]
  · intro r hr ho; simp [readPW] at hr; subst hr; cases ho
  · intro r hr ho; simp [readPW] at hr; subst hr; exact ⟨R, by simp, Hl.le_refl _⟩
  · simp [readPW]
  · intro r hr; simp [readPW] at hr; subst hr; trivial
  · show Nd.holds _ _ _ readPNd
    generalize hρ : envI [x, y, bs.length, c] false [Hl.none, Hl.none, Hl.none, Hl.none, R] = ρ
    have v0 : ρ.i 0 = x := by rw [← hρ]; rfl
    have v1 : ρ.i 1 = y := by rw [← hρ]; rfl
    have v2 : ρ.i 2 = bs.length := by rw [← hρ]; rfl
    have v3 : ρ.i 3 = c := by rw [← hρ]; rfl
    have w4 : ρ.h 4 = R := by rw [← hρ]; rfl
    clear hρ
    unfold readPNd
    simp only [Nd.holds, X.pre, X.rel, X.n, Src.ok, Src.len, Src.vals, true_and, and_true, if_true, Nat.mul_one, Nat.add_zero, Nat.reduceAdd, List.length_cons, List.length_nil, bT_tt, bT_ff, bT_bvar, bT_not, bT_and, bT_or, bT_ite, bT_lt, bT_le, bT_eq, bT_beq, bT_seq, bT_hB, bT_his, bT_hby, bT_hism, bT_hks, iev_lit, iev_var, iev_add, iev_sub, iev_mul, iev_wrap, iev_ite, iev_hI, iev_hP, iev_hmlen, sev_ite, sev_slit, sev_sof, sev_svar, TV.ev, SV.ev, CV.ev, List.map_cons, List.map_nil, Res.hl, cpTV, Cp.sv, Ck.cv, cpSVs, Cp.len, Ck.len, newHs_zero, newHs_one, roots_ne, ig0, ig1, ir0, ir1, ic1]
    rw [v0, v1, v2, v3, w4, Int.toNat_natCast, Int.toNat_natCast]
    refine ⟨⟨_, bs, R, rfl, rfl, hRd, hlen⟩, fun q1 g1 ⟨F1, hp, hF, ⟨⟨n5, n6, n7, n8⟩, _⟩⟩ q2 g2 p9 hd => ?_⟩
    have hO := clone_post hRd hp
    rw [← hF trivial] at hO
    have n5 : -1 ≤ q1.i 5 := n5
    have n6 : 0 ≤ q1.i 6 := n6
    have n7 : 0 ≤ q1.i 7 := n7
    have n8 : 0 ≤ q1.i 8 := n8
    have hcap := owB_cap hO n7 n8
    have hrd := hO.rd
    have hl := (hrd.at n5 n6 n7).1
    rw [hl] at hrd hcap
    have h12 := hd 2 1 _ _ (by decide) rfl rfl rfl
    have h12 : (Hl.one (q2.i 9).toNat _).dis (q2.h 5) := h12
    rw [g2.h 5 (by omega)] at h12
    refine ⟨[], [2, 1], rfl, rfl, ⟨⟨fun k => if k = 0 then q2.i 9 else 0, fun _ => false, fun _ => .empty, fun _ => .tuple #[], fun _ => Hl.none⟩, rfl, ⟨by show -1 ≤ q2.i 9; omega, Int.le_refl _⟩, trivial⟩, _, bs, R, rfl, rfl, hRd, (q2.i 9).toNat, q1.i 5, q1.i 6, q1.i 8, q1.h 5, ?_, ⟨n5, n6, hcap, hby, hlen, hrd, Hl.one_dis.1 h12, ?_⟩⟩
    · show Value.pointer (slP (q2.i 9) 0) = _
      rw [slP_pos p9]; rfl
    · show hls [Hl.one (q2.i 9).toNat (.cells #[.slice (slP (q2.i 5) (q2.i 6)) (q2.i 7).toNat (q2.i 8).toNat, .bool false] 153 (0, 0)), q2.h 5] = _
      rw [g2.i 5 (by omega), g2.i 6 (by omega), g2.i 7 (by omega), g2.i 8 (by omega), g2.h 5 (by omega), hl]
      rfl
/-! ### Raw, Text -/
theorem rd_take {H F : Hl} {a : Nat} {x y c : Int} {bs : List Int} {bad : Bool} (h : InIn H a x y c F bs bad) {m k : Nat} (hm : m + k ≤ bs.length) (c' : Nat) : RdW F (.slice (slP x (if c = m then y else y + m)) k c') ((bs.drop m).take k) := by
  obtain ⟨x', y', c2, he, hy', hr⟩ := (rd_drop h (m := m) (by omega)).w
  simp only [Value.slice.injEq] at he
  refine ⟨x', y', c', ?_, hy', ?_⟩
  · rw [he.1, List.length_take, List.length_drop, Nat.min_eq_left (by omega)]
  · rcases hr with h0 | ⟨h0, hc⟩
    · left; rw [h0]; simp
    · right
      refine ⟨h0, fun j z hz => hc j z ?_⟩
      rw [List.getElem?_take] at hz
      split at hz
      · exact hz
      · cases hz
def rawS : Sx.Spec where
  fn := 102
  own := [.arg 0]
  rd := []
  res := [.one .sl]
  pre := fun xs Hs Rs => ∃ p n H bs bad, xs = [p, .int .i64 n] ∧ Hs = [H] ∧ InAt H p bs bad
  post := fun xs Hs Rs v Hs' F => ∃ p n H bs bad H', xs = [p, .int .i64 n] ∧ Hs = [H] ∧ InAt H p bs bad ∧ Hs' = [H'] ∧ InAt H' p (inRaw bs bad n).2.1 (inRaw bs bad n).2.2 ∧ OwB F 5 v (inRaw bs bad n).1
def rawNd : Nd := .and (.imp (.not (.bvar 6)) (.and (.imp (.not (.lt (.var 5) (.lit 0))) (.and (.e (.le (.lit 0) (.var 3))) (.and (.imp (.lt (.var 3) (.var 5)) (.post [.blk 0 [.sl (.var 1) (.var 2) (.var 3) (.var 4), .bool .tt] 153, .hp 7 [] [.var 1] []] (.sv (.one (.sl (.lit (-1)) (.lit 0) (.lit 0) (.lit 0)))))) (.imp (.not (.lt (.var 3) (.var 5))) (.and (.e (.le (.lit (-1)) (.var 1))) (.and (.e (.le (.lit 0) (.var 2))) (.and (.e (.le (.var 5) (.var 4))) (.and (.pre (.call 1 8 [.sv (.one (.sl (.var 1) (.var 2) (.var 5) (.var 4)))] [] [.hp 7 [] [.var 1] []])) (.ext (.call 1 8 [.sv (.one (.sl (.var 1) (.var 2) (.var 5) (.var 4)))] [] [.hp 7 [] [.var 1] []]) (.and (.e (.le (.var 5) (.var 3))) (.and (.e (.le (.var 3) (.var 4))) (.post [.blk 0 [.sl (.var 1) (.ite (.eq (.var 4) (.var 5)) (.var 2) (.add (.var 2) (.var 5))) (.sub (.var 3) (.var 5)) (.sub (.var 4) (.var 5)), .bool (.bvar 6)] 153, .hp 7 [] [.var 1] [], .hp 8 [] [.var 8] []] (.sv (.one (.sl (.var 8) (.var 9) (.var 10) (.var 11)))))))))))))))) (.imp (.lt (.var 5) (.lit 0)) (.post [.blk 0 [.sl (.var 1) (.var 2) (.var 3) (.var 4), .bool .tt] 153, .hp 7 [] [.var 1] []] (.sv (.one (.sl (.lit (-1)) (.lit 0) (.lit 0) (.lit 0)))))))) (.imp (.bvar 6) (.post [.blk 0 [.sl (.var 1) (.var 2) (.var 3) (.var 4), .bool .tt] 153, .hp 7 [] [.var 1] []] (.sv (.one (.sl (.lit (-1)) (.lit 0) (.lit 0) (.lit 0))))))
def rawW : Walk Tryd.prog inΓ rawS.fn where
  Λ := noLoops
  args := [TP (.var 0) (.lit 0), TI .i64 (.var 5)]
  mem := inMem
  nv := 8
  nd := rawNd
  ok := by kernel_rfl
theorem ownB_nil (F : Hl) (e : TypeId) : OwB F e (.slice none 0 0) [] := ⟨rfl, Or.inl ⟨rfl, rfl⟩⟩
theorem rawS_ok : rawS.OK Tryd.prog := by
  refine Spec.of_fn (Γ := inΓ) inΓ_ok ?_
  rintro xs Hs Rs hl1 hl2 ⟨p, n, H, bs, bad, rfl, rfl, a, x, y, c, F, rfl, h⟩
  have e1 : Rs = [] := List.length_eq_zero_iff.1 hl2
  subst e1
  refine ⟨rawW, inEnv a x y c bs bad F n, fun _ _ => True, fun _ _ => 0, ?_, inEntry h n, (fun _ h => nomatch h), ?_⟩
  · show [Value.pointer (slP (a : Int) 0), Value.int .i64 n] = _
    rw [ptr0]
  · show Nd.holds _ _ _ rawNd
    generalize hρ : inEnv a x y c bs bad F n = ρ
    have v1 : ρ.i 1 = x := by rw [← hρ]; rfl
    have v2 : ρ.i 2 = y := by rw [← hρ]; rfl
    have v3 : ρ.i 3 = bs.length := by rw [← hρ]; rfl
    have v4 : ρ.i 4 = c := by rw [← hρ]; rfl
    have v5 : ρ.i 5 = n := by rw [← hρ]; rfl
    have b6 : ρ.b 6 = bad := by rw [← hρ]; rfl
    have w7 : ρ.h 7 = F := by rw [← hρ]; rfl
    have hrx := h.rx
    have hry := h.ry
    have hrc := h.rc
    have fail : ∀ (t : Mem), bad = true ∨ n < 0 ∨ (bs.length : Int) < n → postOf rawS [.pointer (some ⟨a, 0, none⟩), .int .i64 n] [H] [] ρ (.blk 0 [.sl (.var 1) (.var 2) (.var 3) (.var 4), .bool .tt] 153 :: .hp 7 [] [.var 1] [] :: t) (.sv (.one (.sl (.lit (-1)) (.lit 0) (.lit 0) (.lit 0)))) := by
      intro t hf _
      have hq : Agree 8 (inEnv a x y c bs bad F n) ρ := by rw [hρ]; exact Agree.refl _ _
      have hs : inRaw bs bad n = ([], bs, true) := by unfold inRaw; rw [if_pos hf]
      refine ⟨[[0, 1]], [], rfl, rfl, ⟨⟨fun k => if k = 0 then -1 else 0, fun _ => false, fun _ => .empty, fun _ => .tuple #[], fun _ => Hl.none⟩, rfl, ⟨Int.le_refl _, Int.le_refl _, Int.le_refl _, Int.le_refl _⟩, trivial⟩, _, n, H, bs, bad, _, rfl, rfl, ⟨a, x, y, c, F, rfl, h⟩, rfl, ?_, ?_⟩
      · rw [hs]
        exact inOut h hq (show iev ρ (.var 2) = y from v2) (show iev ρ (.var 3) = _ from v3) (show iev ρ (.var 4) = c from v4) rfl hry hrc h.byte (Nat.le_refl _) h.rd
      · rw [hs]; exact ownB_nil _ _
    unfold rawNd
    simp only [Nd.holds, X.pre, X.rel, X.n, Src.ok, Src.len, Src.vals, true_and, and_true, if_true, Nat.mul_one, Nat.add_zero, Nat.reduceAdd, List.length_cons, List.length_nil, bT_tt, bT_ff, bT_bvar, bT_not, bT_and, bT_or, bT_ite, bT_lt, bT_le, bT_eq, bT_beq, bT_seq, bT_hB, bT_his, bT_hby, bT_hism, bT_hks, iev_lit, iev_var, iev_add, iev_sub, iev_mul, iev_wrap, iev_ite, iev_hI, iev_hP, iev_hmlen, sev_ite, sev_slit, sev_sof, sev_svar, TV.ev, SV.ev, CV.ev, List.map_cons, List.map_nil, Res.hl, cpTV, Cp.sv, Ck.cv, cpSVs, Cp.len, Ck.len, newHs_zero, newHs_one, roots_ne, ig0, ig1, ir0, ir1, ic1]
    rw [b6, v1, v2, v3, v4, v5, w7]
    refine ⟨fun hb => ⟨fun hn => ⟨by omega, fun hlt => fail _ (Or.inr (Or.inr hlt)), fun hge => ⟨hrx, hry, by omega, ?_⟩⟩, fun hn => fail _ (Or.inr (Or.inl hn))⟩, fun hb => fail _ (Or.inl hb)⟩
    have ht := rd_take h (m := 0) (k := n.toNat) (by omega) c.toNat
    rw [List.drop_zero, show (if c = ((0 : Nat) : Int) then y else y + ((0 : Nat) : Int)) = y by split <;> omega] at ht
    refine ⟨⟨_, _, F, rfl, rfl, ht, by rw [List.length_take]; have := h.len; omega⟩, fun q g ⟨F1, hp, hF, hnm⟩ => ?_⟩
    have hO := clone_post ht hp
    rw [← hF trivial] at hO
    rw [g.i 5 (by omega), g.i 3 (by omega), g.i 4 (by omega), v3, v4, v5]
    refine ⟨by omega, hrc, fun _ => ?_⟩
    have hs : inRaw bs bad n = (bs.take n.toNat, bs.drop n.toNat, false) := by
      unfold inRaw
      have : ¬ (bad = true ∨ n < 0 ∨ (bs.length : Int) < n) := by
        rintro (e | e | e)
        · exact hb e
        · exact hn e
        · exact hge e
      rw [if_neg this]
    rw [← hρ] at g
    refine ⟨[[0, 1]], [2], rfl, rfl, ⟨⟨fun k => q.i (8 + k), fun _ => false, fun _ => .empty, fun _ => .tuple #[], fun _ => Hl.none⟩, rfl, hnm.1, trivial⟩, _, n, H, bs, bad, _, rfl, rfl, ⟨a, x, y, c, F, rfl, h⟩, rfl, ?_, ?_⟩
    · rw [hs]
      have hd : ((bs.drop n.toNat).length : Int) = bs.length - n := by rw [List.length_drop]; omega
      have hr := rd_drop h (m := n.toNat) (by omega)
      rw [show ((n.toNat : Nat) : Int) = n by omega] at hr
      refine inOut h g ?_ ?_ ?_ ?_ (y' := if c = n then y else y + n) (by split <;> omega) (c' := c - n) (by rw [hd]; omega) (bytes_drop h.byte _) (by rw [List.length_drop]; omega) hr
      · rw [iev_drop, iev_var, iev_var, iev_var, g.i 4 (by omega), g.i 5 (by omega), g.i 2 (by omega)]; rfl
      · show q.i 3 - q.i 5 = _
        rw [hd, g.i 3 (by omega), g.i 5 (by omega)]; rfl
      · show q.i 4 - q.i 5 = _
        rw [g.i 4 (by omega), g.i 5 (by omega)]; rfl
      · show q.b 6 = _
        rw [g.b 6 (by omega)]; exact Bool.eq_false_iff.2 hb
    · rw [hs]
      show OwB (hls [q.h 8]) _ _ _
      rw [hls_one]; exact hO
end Go.Proofs.YtomdimlnggpgbaaDoor
