/- Layer 7: law07.awake, as a contract. No condition. -/
import Derived.Test.YtdohcabnaihaoaaDskD
set_option linter.unusedSimpArgs false
set_option linter.unusedVariables false
set_option linter.constructorNameAsVariable false
namespace Go.Proofs.Ytdohcabnaihaoaa
open Go Go.Sx

def dΓ : List Sx.Spec := [newS, fullS, writeS, readS, sectorsS, looseS]
theorem dΓ_ok : ∀ t ∈ dΓ, t.OK Try.prog := by
  intro t ht
  simp only [dΓ, List.mem_cons, List.mem_nil_iff, or_false] at ht
  rcases ht with rfl | rfl | rfl | rfl | rfl | rfl
  · exact newS_ok
  · exact fullS_ok
  · exact writeS_ok
  · exact readS_ok
  · exact sectorsS_ok
  · exact looseS_ok
theorem newHs_zero (q : Env) (n : Nat) : newHs q n 0 = [] := rfl
theorem newHs_one (q : Env) (n : Nat) : newHs q n 1 = [q.h n] := by unfold newHs; rw [List.range_one]; rfl
theorem roots_ne {α : Type} {a : α} {l : List α} : (a :: l ≠ []) = True := by simp
theorem dg0 : dΓ[0]? = some newS := rfl
theorem dg1 : dΓ[1]? = some fullS := rfl
theorem dg2 : dΓ[2]? = some writeS := rfl
theorem dg3 : dΓ[3]? = some readS := rfl
theorem dg4 : dΓ[4]? = some sectorsS := rfl
theorem dg5 : dΓ[5]? = some looseS := rfl
theorem dr0 : newS.res = [.one .ptr] := rfl
theorem dr1 : fullS.res = [.one .sl] := rfl
theorem dr2 : writeS.res = [.one (.int .i64)] := rfl
theorem dr3 : readS.res = [.one .sl, .one (.int .i64)] := rfl
theorem dr4 : sectorsS.res = [.one (.int .i64)] := rfl
theorem dr5 : looseS.res = [.one (.int .i64)] := rfl
theorem dc0 : (cpRoots 0 newS.res ≠ []) = True := by simp [dr0, cpRoots, Cp.roots, Ck.root]
theorem dc1 : (cpRoots 0 fullS.res ≠ []) = True := by simp [dr1, cpRoots, Cp.roots, Ck.root]
theorem dc3 : (cpRoots 0 readS.res ≠ []) = True := by simp [dr3, cpRoots, Cp.roots, Ck.root]
def awakeS : Sx.Spec where
  fn := 9
  own := []
  rd := []
  res := [.one .bool]
  pre := fun xs Hs Rs => xs = []
  post := fun xs Hs Rs v Hs' F => v = .bool true
def awakeNd : Nd := .and (.pre (.call 0 0 [.sv (.one (.int .i64 (.lit 2)))] [] [])) (.ext (.call 0 0 [.sv (.one (.int .i64 (.lit 2)))] [] []) (.and (.imp (.not (.eq (.var 0) (.lit (-1)))) (.and (.pre (.call 4 2 [.sv (.one (.hptr (.var 0) (.var 1)))] [.hp 0 [] [.var 0] []] [])) (.ext (.call 4 2 [.sv (.one (.hptr (.var 0) (.var 1)))] [.hp 0 [] [.var 0] []] []) (.and (.imp (.eq (.var 2) (.lit 2)) (.and (.pre (.call 1 4 [.sv (.one (.int .u8 (.lit 7))), .sv (.one (.sl (.lit (-1)) (.lit 0) (.lit 0) (.lit 0)))] [] [.dead])) (.ext (.call 1 4 [.sv (.one (.int .u8 (.lit 7))), .sv (.one (.sl (.lit (-1)) (.lit 0) (.lit 0) (.lit 0)))] [] [.dead]) (.and (.pre (.call 2 8 [.sv (.one (.hptr (.var 0) (.var 1))), .sv (.one (.int .i64 (.lit 0))), .sv (.one (.sl (.var 4) (.var 5) (.var 6) (.var 7)))] [.hp 2 [0] [.var 0] []] [.hp 4 [] [.var 4] []])) (.ext (.call 2 8 [.sv (.one (.hptr (.var 0) (.var 1))), .sv (.one (.int .i64 (.lit 0))), .sv (.one (.sl (.var 4) (.var 5) (.var 6) (.var 7)))] [.hp 2 [0] [.var 0] []] [.hp 4 [] [.var 4] []]) (.and (.imp (.eq (.var 8) (.lit 0)) (.and (.pre (.call 5 10 [.sv (.one (.hptr (.var 0) (.var 1)))] [.hp 8 [2, 0] [.var 0] []] [])) (.ext (.call 5 10 [.sv (.one (.hptr (.var 0) (.var 1)))] [.hp 8 [2, 0] [.var 0] []] []) (.post [.hp 10 [8, 2, 0] [.var 0] [], .hp 4 [] [.var 4] []] (.sv (.one (.bool (.eq (.var 10) (.lit 1))))))))) (.imp (.not (.eq (.var 8) (.lit 0))) (.post [.hp 8 [2, 0] [.var 0] [], .hp 4 [] [.var 4] []] (.sv (.one (.bool .ff))))))))))) (.imp (.not (.eq (.var 2) (.lit 2))) (.post [.hp 2 [0] [.var 0] []] (.sv (.one (.bool .ff))))))))) (.imp (.eq (.var 0) (.lit (-1))) (.post [.hp 0 [] [.var 0] []] (.sv (.one (.bool .ff)))))))
def awakeW : Walk Try.prog dΓ awakeS.fn where
  Λ := noLoops
  args := []
  mem := []
  nv := 0
  nd := awakeNd
  ok := by kernel_rfl
theorem awakeS_ok : awakeS.OK Try.prog := by
  refine Spec.of_fn (Γ := dΓ) dΓ_ok ?_
  rintro xs Hs Rs hl1 hl2 rfl
  have e0 : Hs = [] := List.length_eq_zero_iff.1 hl1
  have e1 : Rs = [] := List.length_eq_zero_iff.1 hl2
  subst e0; subst e1
  refine ⟨awakeW, envI [] false [], fun _ _ => True, fun _ _ => 0, rfl, ⟨?_, ?_, ?_, ?_⟩, (fun _ h => nomatch h), ?_⟩
  · intro r hr; simp [awakeW] at hr
  · intro r hr; simp [awakeW] at hr
  · simp [awakeW]
  · intro r hr; simp [awakeW] at hr
  · show Nd.holds _ _ _ awakeNd
    unfold awakeNd
    simp only [Nd.holds, X.pre, X.rel, X.n, Src.ok, Src.len, Src.vals, true_and, and_true, if_true, Nat.mul_one, Nat.add_zero, Nat.reduceAdd, List.length_cons, List.length_nil, bT_tt, bT_ff, bT_bvar, bT_not, bT_and, bT_or, bT_ite, bT_lt, bT_le, bT_eq, bT_beq, bT_seq, bT_hB, bT_his, bT_hby, bT_hism, bT_hks, iev_lit, iev_var, iev_add, iev_sub, iev_mul, iev_wrap, iev_ite, iev_hI, iev_hP, iev_hmlen, sev_ite, sev_slit, sev_sof, sev_svar, TV.ev, SV.ev, CV.ev, List.map_cons, List.map_nil, Res.hl, cpTV, Cp.sv, Ck.cv, cpSVs, Cp.len, Ck.len, newHs_zero, newHs_one, roots_ne, dg0, dg1, dg2, dg3, dg4, dg5, dc0, dc1, dc3, dr0, dr1, dr2, dr3, dr4, dr5, forall_const]
    refine ⟨⟨2, rfl⟩, fun q1 g1 ⟨F, ⟨n, hn, hD⟩, hF⟩ => ?_⟩
    cases hn
    have hF := hF.1 (by simp [cpRoots, Cp.roots, Ck.root])
    subst hF
    have hne : q1.i 0 ≠ -1 := by
      intro e
      obtain ⟨a, s, m, es, clock, he, _⟩ := hD
      rw [e, slP_nil] at he; cases he
    refine ⟨fun _ => ⟨⟨_, _, _, rfl, rfl, hD⟩, fun q2 g2 ⟨_, ⟨p, H, D, H', hp, hH, hDD, hH', hD2, hv⟩, _⟩ => ?_⟩, fun h => absurd h hne⟩
    cases hp; cases hH; cases hH'
    have e := hDD.uniq hD
    subst e
    simp only [Value.int.injEq, true_and] at hv
    refine ⟨fun _ => ⟨⟨7, _, [], Hl.none, rfl, rfl, -1, 0, 0, rfl, by omega, Or.inl rfl⟩, fun q3 g3 ⟨F3, ⟨c, u, bs, R, hx, hR, hrd, how⟩, hF3⟩ => ?_⟩, fun h => absurd hv h⟩
    cases hx; cases hR
    have hF3 := hF3.1 (by simp [cpRoots, Cp.roots, Ck.root])
    subst hF3
    have e2 : bs = [] := hrd.uniq ⟨-1, 0, 0, rfl, by omega, Or.inl rfl⟩
    subst e2
    have p3 : Value.pointer (slP (q3.i 0) (q3.i 1)) = Value.pointer (slP (q1.i 0) (q1.i 1)) := by rw [g3.i 0 (by omega), g3.i 1 (by omega), g2.i 0 (by omega), g2.i 1 (by omega)]
    have hD3 : DiskAt (q3.h 2) (.pointer (slP (q3.i 0) (q3.i 1))) (newD 2) := by rw [p3, g3.h 2 (by omega)]; exact hD2
    refine ⟨⟨_, 0, _, _, _, _, _, rfl, rfl, rfl, hD3, how.rd⟩, fun q4 g4 ⟨_, ⟨p, i, u, bs, H, R, D, H', hp, hH, hR, hDD, hrd', hH', hD4, hv4⟩, _⟩ => ?_⟩
    cases hp; cases hH; cases hH'; cases hR
    have e := hDD.uniq hD3
    subst e
    have e2 := hrd'.uniq how.rd
    subst e2
    have hw : writeR (newD 2) 0 (fullL 7 []) = (0, putD (newD 2) 0 (fullL 7 [])) := by
      unfold writeR
      rw [if_neg (by rw [fullL_length]; decide), if_neg (by decide), if_neg (by decide)]
    rw [hw] at hv4 hD4
    simp only [Value.int.injEq, true_and] at hv4
    have hD4' : DiskAt (q4.h 8) (.pointer (slP (q4.i 0) (q4.i 1))) (putD (newD 2) 0 (fullL 7 [])) := by rw [g4.i 0 (by omega), g4.i 1 (by omega)]; exact hD4
    refine ⟨fun _ => ⟨⟨_, _, _, rfl, rfl, hD4'⟩, fun q5 g5 ⟨_, ⟨p, H, D, H', hp, hH, hDD, hH', hD5, hv5⟩, _⟩ _ => ?_⟩, fun h => absurd hv4 h⟩
    cases hp; cases hH
    have e := hDD.uniq hD4'
    subst e
    simp only [Value.int.injEq, true_and] at hv5
    have h1 : q5.i 10 = 1 := hv5
    refine ⟨[], [], rfl, rfl, ⟨⟨fun _ => 0, fun _ => true, fun _ => .empty, fun _ => .tuple #[], fun _ => Hl.none⟩, ?_, trivial, trivial⟩, ?_⟩
    · simp only [Nd.holds, X.pre, X.rel, X.n, Src.ok, Src.len, Src.vals, true_and, and_true, if_true, Nat.mul_one, Nat.add_zero, Nat.reduceAdd, List.length_cons, List.length_nil, bT_tt, bT_ff, bT_bvar, bT_not, bT_and, bT_or, bT_ite, bT_lt, bT_le, bT_eq, bT_beq, bT_seq, bT_hB, bT_his, bT_hby, bT_hism, bT_hks, iev_lit, iev_var, iev_add, iev_sub, iev_mul, iev_wrap, iev_ite, iev_hI, iev_hP, iev_hmlen, sev_ite, sev_slit, sev_sof, sev_svar, TV.ev, SV.ev, CV.ev, List.map_cons, List.map_nil, Res.hl, cpTV, Cp.sv, Ck.cv, cpSVs, Cp.len, Ck.len, newHs_zero, newHs_one, roots_ne, bev_eq, bev_bvar, h1]; rfl
    · show Value.bool _ = _
      simp only [Nd.holds, X.pre, X.rel, X.n, Src.ok, Src.len, Src.vals, true_and, and_true, if_true, Nat.mul_one, Nat.add_zero, Nat.reduceAdd, List.length_cons, List.length_nil, bT_tt, bT_ff, bT_bvar, bT_not, bT_and, bT_or, bT_ite, bT_lt, bT_le, bT_eq, bT_beq, bT_seq, bT_hB, bT_his, bT_hby, bT_hism, bT_hks, iev_lit, iev_var, iev_add, iev_sub, iev_mul, iev_wrap, iev_ite, iev_hI, iev_hP, iev_hmlen, sev_ite, sev_slit, sev_sof, sev_svar, TV.ev, SV.ev, CV.ev, List.map_cons, List.map_nil, Res.hl, bev_eq, h1]; rfl
end Go.Proofs.Ytdohcabnaihaoaa
