/- Layer 7: the reference disk's Write and Loose, as contracts. No condition. -/
import Derived.Test.YtdohcabnaihaoaaRfC
set_option linter.unusedSimpArgs false
set_option linter.unusedVariables false
set_option linter.constructorNameAsVariable false
namespace Go.Proofs.Ytdohcabnaihaoaa
open Go Go.Sx

def lessF (f : Int) : Int := if 0 < f then f - 1 else f
def rwriteR (M : RM) (i : Int) (bs : List Int) : Int × RM :=
  if i < 0 ∨ (M.now.length : Int) ≤ i ∨ bs.length ≠ 64 then (1, M) else if M.gone = true ∨ M.fuse = 0 then (5, { M with gone := true })
  else (0, ⟨M.now.set i.toNat bs, M.was, M.is.set i.toNat true, lessF M.fuse, false⟩)
def rwriteS : Sx.Spec where
  fn := 29
  own := [.arg 0]
  rd := [2]
  res := [.one (.int .i64)]
  pre := fun xs Hs Rs => ∃ p i u bs H R M, xs = [p, .int .i64 i, u] ∧ Hs = [H] ∧ Rs = [R] ∧ RefAt H p M ∧ RdW R u bs
  post := fun xs Hs Rs v Hs' F => ∃ p i u bs H R M H', xs = [p, .int .i64 i, u] ∧ Hs = [H] ∧ Rs = [R] ∧ RefAt H p M ∧ RdW R u bs ∧ Hs' = [H'] ∧ RefAt H' p (rwriteR M i bs).2 ∧ v = .int .i64 (rwriteR M i bs).1
def rwriteNd : Nd := .and (.imp (.not (.lt (.var 1) (.lit 0))) (.and (.e (.le (.lit 0) (.var 7))) (.and (.imp (.not (.le (.var 7) (.var 1))) (.and (.e (.le (.lit 0) (.var 4))) (.and (.imp (.not (.eq (.var 4) (.lit 64))) (.post [.blk 0 [.sl (.var 6) (.lit 0) (.var 7) (.var 8), .sl (.var 9) (.lit 0) (.var 7) (.var 10), .sl (.var 11) (.lit 0) (.var 7) (.var 12), .int .i64 (.var 13), .bool (.bvar 14)] 66, .hp 15 [] [.var 6] [], .hp 16 [] [.var 9] [], .hp 17 [] [.var 11] [], .ro 18 [.var 2] false] (.sv (.one (.int .i64 (.lit 1)))))) (.imp (.eq (.var 4) (.lit 64)) (.and (.imp (.not (.bvar 14)) (.and (.imp (.eq (.var 13) (.lit 0)) (.post [.blk 0 [.sl (.var 6) (.lit 0) (.var 7) (.var 8), .sl (.var 9) (.lit 0) (.var 7) (.var 10), .sl (.var 11) (.lit 0) (.var 7) (.var 12), .int .i64 (.var 13), .bool .tt] 66, .hp 15 [] [.var 6] [], .hp 16 [] [.var 9] [], .hp 17 [] [.var 11] [], .ro 18 [.var 2] false] (.sv (.one (.int .i64 (.lit 5)))))) (.imp (.not (.eq (.var 13) (.lit 0))) (.and (.and (.imp (.lt (.lit 0) (.var 13)) (.inv 1 [⟨30, 0, .int .i64 (.wrap .i64 (.sub (.var 13) (.lit 1)))⟩] [])) (.imp (.not (.lt (.lit 0) (.var 13))) (.inv 1 [⟨30, 0, .int .i64 (.var 13)⟩] []))) (.havoc 0 1 19 (.ext (.alloc 31) (.and (.pre (.app 32 5 1 1 (.sl (.var 31) (.lit 0) (.lit 0) (.lit 0)) (.lit 0) (.blk 31 [] 5) (.seg 18 (.var 2) (.var 3) (.var 4)))) (.ext (.app 32 5 1 1 (.sl (.var 31) (.lit 0) (.lit 0) (.lit 0)) (.lit 0) (.blk 31 [] 5) (.seg 18 (.var 2) (.var 3) (.var 4))) (.and (.e (.le (.lit 0) (.var 6))) (.and (.e (.lt (.var 1) (.var 7))) (.ext (.mrg 34 (.hp 15 [] [.var 6] []) (.hp 32 [] [.var 32, .var 31] [])) (.and (.pre (.put 35 34 (.var 6) (.var 1) [.sl (.var 32) (.lit 0) (.var 4) (.var 33)])) (.ext (.put 35 34 (.var 6) (.var 1) [.sl (.var 32) (.lit 0) (.var 4) (.var 33)]) (.and (.e (.le (.lit 0) (.var 11))) (.and (.pre (.put 36 17 (.var 11) (.var 1) [.bool .tt])) (.ext (.put 36 17 (.var 11) (.var 1) [.bool .tt]) (.post [.blk 0 [.sl (.var 6) (.lit 0) (.var 7) (.var 8), .sl (.var 9) (.lit 0) (.var 7) (.var 10), .sl (.var 11) (.lit 0) (.var 7) (.var 12), .int .i64 (.var 30), .bool (.bvar 14)] 66, .hp 35 [34, 15, 32] [.var 6, .var 32, .var 32, .var 31] [], .hp 16 [] [.var 9] [], .hp 36 [17] [.var 11] [], .ro 18 [.var 2] false, .dead] (.sv (.one (.int .i64 (.lit 0))))))))))))))))))))) (.imp (.bvar 14) (.post [.blk 0 [.sl (.var 6) (.lit 0) (.var 7) (.var 8), .sl (.var 9) (.lit 0) (.var 7) (.var 10), .sl (.var 11) (.lit 0) (.var 7) (.var 12), .int .i64 (.var 13), .bool .tt] 66, .hp 15 [] [.var 6] [], .hp 16 [] [.var 9] [], .hp 17 [] [.var 11] [], .ro 18 [.var 2] false] (.sv (.one (.int .i64 (.lit 5))))))))))) (.imp (.le (.var 7) (.var 1)) (.post [.blk 0 [.sl (.var 6) (.lit 0) (.var 7) (.var 8), .sl (.var 9) (.lit 0) (.var 7) (.var 10), .sl (.var 11) (.lit 0) (.var 7) (.var 12), .int .i64 (.var 13), .bool (.bvar 14)] 66, .hp 15 [] [.var 6] [], .hp 16 [] [.var 9] [], .hp 17 [] [.var 11] [], .ro 18 [.var 2] false] (.sv (.one (.int .i64 (.lit 1))))))))) (.imp (.lt (.var 1) (.lit 0)) (.post [.blk 0 [.sl (.var 6) (.lit 0) (.var 7) (.var 8), .sl (.var 9) (.lit 0) (.var 7) (.var 10), .sl (.var 11) (.lit 0) (.var 7) (.var 12), .int .i64 (.var 13), .bool (.bvar 14)] 66, .hp 15 [] [.var 6] [], .hp 16 [] [.var 9] [], .hp 17 [] [.var 11] [], .ro 18 [.var 2] false] (.sv (.one (.int .i64 (.lit 1))))))
def chCut (p : List Nat) : Bool := cutAt p [36, 1, 1, 0]
def rwriteW : Walk Try.prog [] rwriteS.fn where
  Λ := fun p => if chCut p then some ⟨1, [], [(0, rBlk (.int .i64 (.var 30)) (.bool (.bvar 14)))], 31⟩ else none
  args := [TP (.var 0) (.lit 0), TI .i64 (.var 1), .sv (.one (.sl (.var 2) (.var 3) (.var 4) (.var 5)))]
  mem := rMem ++ [.ro 18 [.var 2] false]
  nv := 19
  nd := rwriteNd
  ok := by kernel_rfl
theorem lessF_ok {f : Int} (h0 : -1 ≤ f) (h1 : f ≤ 9223372036854775807) : -1 ≤ lessF f ∧ lessF f ≤ 9223372036854775807 := by
  unfold lessF; split <;> omega
theorem RM.ok.gone {M : RM} (h : M.ok) : ({ M with gone := true } : RM).ok := ⟨h.now, h.was, h.wl, h.il, h.n, h.f0, h.f1⟩
theorem map_set_bool (l : List Bool) (i : Nat) (b : Bool) : (l.set i b).map Value.bool = (l.map Value.bool).set i (.bool b) := by
  rw [List.map_set]
theorem rwriteS_ok : rwriteS.OK Try.prog := by
  refine Spec.of_fn (Γ := []) (fun _ h => by cases h) ?_
  rintro xs Hs Rs hl1 hl2 ⟨p, i, u, bs, H, R, M, rfl, rfl, rfl, ⟨a, n, x1, c1, x2, c2, x3, c3, A, B, C, rfl, h⟩, hRd⟩
  obtain ⟨x, y, cp, rfl, hy, hR⟩ := id hRd
  refine ⟨rwriteW, rEnv a n x1 c1 x2 c2 x3 c3 A B C M [i, x, y, bs.length, cp] R, fun _ q => q.i 30 = lessF M.fuse, fun _ _ => 0, ?_, rEntry2 h _ rfl _ _, (fun _ h => nomatch h), ?_⟩
  · show [Value.pointer (slP (a : Int) 0), Value.int .i64 i, Value.slice (slP x y) ((bs.length : Int)).toNat ((cp : Int)).toNat] = _
    rw [dArg, Int.toNat_natCast, Int.toNat_natCast]
  · show Nd.holds _ _ _ rwriteNd
    generalize hρ : rEnv a n x1 c1 x2 c2 x3 c3 A B C M [i, x, y, bs.length, cp] R = ρ
    have v1 : ρ.i 1 = i := by rw [← hρ]; rfl
    have v2 : ρ.i 2 = x := by rw [← hρ]; rfl
    have v3 : ρ.i 3 = y := by rw [← hρ]; rfl
    have v4 : ρ.i 4 = bs.length := by rw [← hρ]; rfl
    have v6 : ρ.i 6 = x1 := by rw [← hρ]; rfl
    have v7 : ρ.i 7 = n := by rw [← hρ]; rfl
    have v11 : ρ.i 11 = x3 := by rw [← hρ]; rfl
    have v13 : ρ.i 13 = M.fuse := by rw [← hρ]; rfl
    have b14 : ρ.b 14 = M.gone := by rw [← hρ]; rfl
    have w15 : ρ.h 15 = A := by rw [← hρ]; rfl
    have w16 : ρ.h 16 = B := by rw [← hρ]; rfl
    have w17 : ρ.h 17 = C := by rw [← hρ]; rfl
    have w18 : ρ.h 18 = R := by rw [← hρ]; rfl
    have out : ∀ (q : Env) (f g : CV) (k1 k2 k3 : Nat) (u1 u2 u3 : List Nat) (t1 t2 t3 : List E) (t : Mem) (c : Int) (M' : RM), Agree 19 ρ q → rwriteR M i bs = (c, M') → M'.ok → M'.now.length = M.now.length → f.ev q = .int .i64 M'.fuse → g.ev q = .bool M'.gone → RowsO (q.h k1) (sv0 x1 n c1) M'.now → RowsO (q.h k2) (sv0 x2 n c2) M'.was → OwnsH (q.h k3) 4 1 (sv0 x3 n c3) n (M'.is.map Value.bool) →
        postOf rwriteS [.pointer (some ⟨a, 0, none⟩), .int .i64 i, .slice (slP x y) bs.length cp] [H] [R] q (rBlk f g :: .hp k1 u1 t1 [] :: .hp k2 u2 t2 [] :: .hp k3 u3 t3 [] :: t) (.sv (.one (.int .i64 (.lit c)))) := by
      intro q f g k1 k2 k3 u1 u2 u3 t1 t2 t3 t c M' hq hs hok hn hf hg h1 h2 h3 hd
      rw [← hρ] at hq
      refine ⟨[[0, 1, 2, 3]], [], rfl, rfl, ⟨⟨fun _ => c, fun _ => false, fun _ => .empty, fun _ => .tuple #[], fun _ => Hl.none⟩, rfl, trivial, trivial⟩, _, i, _, bs, H, R, M, _, rfl, rfl, rfl, ⟨a, n, x1, c1, x2, c2, x3, c3, A, B, C, rfl, h⟩, hRd, rfl, ?_, by rw [hs]; rfl⟩
      rw [hs]
      exact rOut h rfl hq hok hn hf hg h1 h2 h3 hd
    have same : ∀ (t : Mem) (c : Int) (g : CV) (M' : RM), rwriteR M i bs = (c, M') → M'.ok → M'.now = M.now → M'.was = M.was → M'.is = M.is → M'.fuse = M.fuse → g.ev ρ = .bool M'.gone →
        postOf rwriteS [.pointer (some ⟨a, 0, none⟩), .int .i64 i, .slice (slP x y) bs.length cp] [H] [R] ρ (rBlk (.int .i64 (.var 13)) g :: .hp 15 [] [.var 6] [] :: .hp 16 [] [.var 9] [] :: .hp 17 [] [.var 11] [] :: t) (.sv (.one (.int .i64 (.lit c)))) := by
      intro t c g M' hs hok e1 e2 e3 e4 hg
      exact out ρ _ g 15 16 17 _ _ _ _ _ _ t c M' (Agree.refl _ _) hs hok (by rw [e1]) (by show Value.int .i64 (ρ.i 13) = _; rw [v13, e4]) hg (by rw [w15, e1]; exact h.now) (by rw [w16, e2]; exact h.was) (by rw [w17, e3]; exact h.is)
    unfold rwriteNd
    simp only [Nd.holds, X.pre, X.rel, X.n, Src.ok, Src.len, Src.vals, true_and, and_true, if_true, Nat.mul_one, Nat.add_zero, Nat.reduceAdd, List.length_cons, List.length_nil, bT_tt, bT_ff, bT_bvar, bT_not, bT_and, bT_or, bT_ite, bT_lt, bT_le, bT_eq, bT_beq, bT_seq, bT_hB, bT_his, bT_hby, bT_hism, bT_hks, iev_lit, iev_var, iev_add, iev_sub, iev_mul, iev_wrap, iev_ite, iev_hI, iev_hP, iev_hmlen, sev_ite, sev_slit, sev_sof, sev_svar, TV.ev, SV.ev, CV.ev, List.map_cons, List.map_nil, Res.hl]
    rw [v1, v4, v7, b14, v13]
    have hn := h.len
    have g0 : (CV.bool (.bvar 14)).ev ρ = .bool M.gone := by show Value.bool (ρ.b 14) = _; rw [b14]
    refine ⟨fun hi0 => ⟨by omega, fun hin => ⟨by omega, fun hb => ?_, fun hb => ⟨fun hg => ⟨fun hz => ?_, fun hz => ⟨⟨fun hp => ?_, fun hp => ?_⟩, fun q g e30 q1 g1 p31 => ?_⟩⟩, fun hg => ?_⟩⟩, fun hin => ?_⟩, fun hi0 => ?_⟩
    · refine same _ 1 (.bool (.bvar 14)) M ?_ h.ok rfl rfl rfl rfl g0
      unfold rwriteR
      rw [if_pos (Or.inr (Or.inr (by omega)))]
    · refine same _ 5 (.bool .tt) { M with gone := true } ?_ h.ok.gone rfl rfl rfl rfl rfl
      unfold rwriteR
      rw [if_neg (by omega), if_pos (Or.inr hz)]
    · show IntKind.i64.wrap (ρ.i 13 - 1) = _
      have := h.ok.f0
      have := h.ok.f1
      rw [v13, wrap_i64 (by omega) (by omega)]
      unfold lessF
      rw [if_pos hp]
    · show ρ.i 13 = _
      rw [v13]; unfold lessF; rw [if_neg hp]
    · have hlen : bs.length = 64 := by omega
      have hx : 0 ≤ x ∧ ∀ j z, bs[j]? = some z → R.cell x.toNat (y.toNat + j) = some (.int .u8 z) := by
        rcases hR with h | h
        · rw [h] at hlen; cases hlen
        · exact h
      have A1 : Agree 19 ρ q1 := g.trans (g1.mono (by omega))
      rw [A1.i 2 (by omega), A1.i 3 (by omega), A1.i 4 (by omega), A1.h 18 (by omega), v2, v3, v4, w18]
      obtain ⟨hok, hseg⟩ := seg_of (l := (bs.length : Int)) rfl hy hR
      have ho0 := own0 (Hl.one (q1.i 31).toNat (.cells #[] 5 (0, 0))) p31 rfl
      refine ⟨⟨⟨_, ho0⟩, Int.le_refl _, by simpa using hok, by rw [hlen]; decide, by rw [hlen]; decide⟩, fun q2 g2 ⟨a1, a2, a3, _⟩ => ?_⟩
      have hx2 := a3 _ ho0
      rw [hseg, List.nil_append] at hx2
      have A2 : Agree 19 ρ q2 := A1.trans (g2.mono (by omega))
      have hrow : RowO (q2.h 32) none (.slice (slP (q2.i 32) 0) ((bs.length : Int)).toNat (q2.i 33).toNat) bs := by
        refine rowO_of ?_ (fun e => by rw [e] at hlen; cases hlen)
        rw [Int.toNat_natCast]
        simpa using hx2
      rw [A2.i 1 (by omega), A2.i 6 (by omega), A2.i 7 (by omega), v1, v6, v7]
      have hin' : i.toNat < M.now.length := by omega
      have hnow : RowsO A (sv0 x1 n c1) M.now := h.now
      have h0x1 : 0 ≤ x1 := (hnow.at h.r1.1 (by omega)).2 i.toNat _ (List.getElem?_eq_getElem hin') |>.1
      refine ⟨h0x1, by omega, fun q3 g3 ⟨h34, d34⟩ => ?_⟩
      have A3 : Agree 19 ρ q3 := A2.trans (g3.mono (by omega))
      rw [A2.h 15 (by omega), w15] at h34 d34
      obtain ⟨_, w1, hput⟩ := hnow.put h.r1.1 d34 hrow hin'
      rw [A3.i 1 (by omega), A3.i 6 (by omega), v1, v6, h34]
      have e32 : Value.slice (slP (q3.i 32) 0) (q3.i 4).toNat (q3.i 33).toNat = .slice (slP (q2.i 32) 0) ((bs.length : Int)).toNat (q2.i 33).toNat := by
        rw [g3.i 32 (by omega), g3.i 33 (by omega), A3.i 4 (by omega), v4]
      rw [e32]
      refine ⟨⟨h0x1, by omega, w1⟩, fun q4 g4 h35 => ?_⟩
      have A4 : Agree 19 ρ q4 := A3.trans (g4.mono (by omega))
      obtain ⟨h0x3, w3, _, hput3⟩ := h.is.put1 h.r3.1 (i := i.toNat) (by omega) (.bool true)
      rw [A4.i 1 (by omega), A4.i 11 (by omega), v1, v11, A4.h 17 (by omega), w17]
      refine ⟨h0x3, ⟨h0x3, by omega, w3⟩, fun q5 g5 h36 => ?_⟩
      have A5 : Agree 19 ρ q5 := A4.trans (g5.mono (by omega))
      have f30 : q5.i 30 = lessF M.fuse := by rw [g5.i 30 (by omega), g4.i 30 (by omega), g3.i 30 (by omega), g2.i 30 (by omega), g1.i 30 (by omega), e30]
      have hgf : M.gone = false := Bool.eq_false_iff.2 hg
      refine out q5 _ _ 35 16 36 _ _ _ _ _ _ _ 0 ⟨M.now.set i.toNat bs, M.was, M.is.set i.toNat true, lessF M.fuse, false⟩ A5 ?_ ?_ ?_ ?_ ?_ ?_ ?_ ?_
      · unfold rwriteR
        rw [if_neg (by omega), if_neg (fun e => e.elim hg hz)]
      · refine ⟨fun r hr => ?_, h.ok.was, by show _ = (M.now.set _ _).length; rw [List.length_set]; exact h.ok.wl, by show (M.is.set _ _).length = (M.now.set _ _).length; rw [List.length_set, List.length_set]; exact h.ok.il, by show (M.now.set _ _).length ≤ _; rw [List.length_set]; exact h.ok.n, (lessF_ok h.ok.f0 h.ok.f1).1, (lessF_ok h.ok.f0 h.ok.f1).2⟩
        rcases List.mem_or_eq_of_mem_set hr with hr | hr
        · exact h.ok.now r hr
        · rw [hr]; exact hlen
      · show (M.now.set _ _).length = _
        rw [List.length_set]
      · show Value.int .i64 (q5.i 30) = _
        rw [f30]
      · show Value.bool (q5.b 14) = _
        rw [A5.b 14 (by omega), b14, hgf]
      · show RowsO (q5.h 35) _ (M.now.set i.toNat bs)
        rw [g5.h 35 (by omega), h35]; exact hput
      · rw [A5.h 16 (by omega), w16]; exact h.was
      · show OwnsH (q5.h 36) _ 1 _ n ((M.is.set i.toNat true).map Value.bool)
        rw [h36, map_set_bool]; exact hput3
    · refine same _ 5 (.bool .tt) { M with gone := true } ?_ h.ok.gone rfl rfl rfl rfl rfl
      unfold rwriteR
      rw [if_neg (by omega), if_pos (Or.inl hg)]
    · refine same _ 1 (.bool (.bvar 14)) M ?_ h.ok rfl rfl rfl rfl g0
      unfold rwriteR
      rw [if_pos (Or.inr (Or.inl (by omega)))]
    · refine same _ 1 (.bool (.bvar 14)) M ?_ h.ok rfl rfl rfl rfl g0
      unfold rwriteR
      rw [if_pos (Or.inl hi0)]
end Go.Proofs.Ytdohcabnaihaoaa
