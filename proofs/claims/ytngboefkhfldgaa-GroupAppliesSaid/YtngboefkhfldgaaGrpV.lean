/- Layer 17: group.Apply as a contract, whatever tells of headers whether they are formed. No condition. -/
import Derived.Test.YtngboefkhfldgaaGrpU
set_option linter.unusedSimpArgs false
set_option linter.unusedVariables false
set_option linter.constructorNameAsVariable false
namespace Go.Proofs.Ytngboefkhfldgaa.V2
open Go Go.Sx

def g0 : Grp := ⟨0, 0, 0, fun _ => false, fun _ => false, fun _ => 0⟩
/-- What Apply answers. -/
def applyF (fb : Bool) (g : Grp) (n op m cut : Int) (ls : List Int) : Grp × Int :=
  if fb = false then (g0, 1)
  else if mayOf g n op m ≠ 0 then (g0, mayOf g n op m)
  else if op = 5 then (behind g n op m cut, 0)
  else if (List.range 6).all (fun k => (behind g n op m cut).mem k == decide (0 < ls.getD k 0)) then (behind g n op m cut, 0)
  else (g0, 2)
def lsV (c : Value) : List Int := [atL c 3, atL c 4, atL c 5, atL c 6, atL c 7, atL c 8]
def applyR (fb : Bool) (g h c : Value) : Grp × Int := applyF (fb && atB h 35 && cFormedV c) (gOfV g) (atI h 0) (atI c 0) (atI c 1) (atI c 2) (lsV c)
def applyV (r : Grp × Int) : Value := .tuple #[gV r.1, .int .i64 r.2]
def apIn : List Cp := [.agg gk2, .agg hk2, .agg ck2]
theorem shape_apply (g : Grp) (e : Int) : ∃ ρ2, applyV (g, e) = (cpTV 0 [.agg gk2, .one i64]).ev ρ2 ∧ cpNorms 0 [.agg gk2, .one i64] ρ2 :=
  ⟨⟨fun j => match j with | 0 => g.owner | 1 => g.epoch | 14 => g.cut 0 | 15 => g.cut 1 | 16 => g.cut 2 | 17 => g.cut 3 | 18 => g.cut 4 | 19 => g.cut 5 | 20 => g.seen | 21 => e | _ => 0,
    fun j => match j with | 2 => g.mem 0 | 3 => g.mem 1 | 4 => g.mem 2 | 5 => g.mem 3 | 6 => g.mem 4 | 7 => g.mem 5 | 8 => g.gone 0 | 9 => g.gone 1 | 10 => g.gone 2 | 11 => g.gone 3 | 12 => g.gone 4 | 13 => g.gone 5 | _ => false,
    fun _ => .empty, fun _ => .tuple #[], fun _ => Hl.none⟩, rfl, ⟨trivial, trivial, trivial, trivial, trivial, trivial, trivial, trivial, trivial, trivial, trivial, trivial, trivial, trivial, trivial, trivial, trivial, trivial, trivial, trivial, trivial, trivial⟩, trivial, trivial⟩

section
variable (HdrOK : Value → Hl → Prop) (hForm : Value → Hl → Bool)
/-- entry.Formed: of headers that may be read. -/
def eFormedS : Sx.Spec where
  fn := 26
  own := []
  rd := [100]
  res := [.one .bool]
  pre := fun xs Hs Rs => ∃ h R, xs = [h] ∧ Rs = [R] ∧ HdrOK h R
  post := fun xs Hs Rs v Hs' F => ∃ h R, xs = [h] ∧ Rs = [R] ∧ v = .bool (hForm h R)
def applyS : Sx.Spec where
  fn := 17
  own := []
  rd := [100]
  res := [.agg gk2, .one i64]
  pre := fun xs Hs Rs => ∃ q R, cpNormsW 0 apIn q ∧ xs = inVs apIn q ∧ Rs = [R] ∧ HdrOK ((SV.agg (ckCVs 21 hk2)).ev q) R
  post := fun xs Hs Rs v Hs' F => ∃ g h c R, xs = [g, h, c] ∧ Rs = [R] ∧ v = applyV (applyR (hForm h R) g h c)
def z21 : List CV := [.int .i64 (.lit 0), .int .i64 (.lit 0)] ++ List.replicate 12 (CV.bool .ff) ++ [.int .u64 (.lit 0), .int .u64 (.lit 0), .int .u64 (.lit 0), .int .u64 (.lit 0), .int .u64 (.lit 0), .int .u64 (.lit 0), .int .i64 (.lit 0)]
def apΓ : List Sx.Spec := [eFormedS HdrOK hForm, cFormedS, mayS2, behindS2]
set_option maxHeartbeats 4000000 in
def applyNd : Nd := .ext (.alloc 181) (.ext (.alloc 182) (.ext (.alloc 183) (.ext (.alloc 184) (.and (.pre (.call 0 185 [.sv (.agg (ckCVs 21 hk2))] [] [.ro 180 [] true])) (.ext (.call 0 185 [.sv (.agg (ckCVs 21 hk2))] [] [.ro 180 [] true]) (.and (.imp (.bvar 185) (.and (.imp (.bvar 56) (.and (.pre (.call 1 186 [.sv (.agg (ckCVs 149 ck2))] [] [])) (.ext (.call 1 186 [.sv (.agg (ckCVs 149 ck2))] [] []) (.and (.imp (.not (.bvar 186)) (.post [.ro 180 [] true, .dead, .dead, .dead, .dead] (.tup [.agg z21, .one (.int .i64 (.lit 1))]))) (.imp (.bvar 186) (.and (.pre (.call 2 187 [.sv (.agg (ckCVs 0 gk2)), .sv (.one (.int .i64 (.var 21))), .sv (.one (.int .i64 (.var 149))), .sv (.one (.int .i64 (.var 150)))] [] [])) (.ext (.call 2 187 [.sv (.agg (ckCVs 0 gk2)), .sv (.one (.int .i64 (.var 21))), .sv (.one (.int .i64 (.var 149))), .sv (.one (.int .i64 (.var 150)))] [] []) (.and (.imp (.not (.eq (.var 187) (.lit 0))) (.post [.ro 180 [] true, .dead, .dead, .dead, .dead] (.tup [.agg z21, .one (.int .i64 (.var 187))]))) (.imp (.eq (.var 187) (.lit 0)) (.and (.pre (.call 3 188 [.sv (.agg (ckCVs 0 gk2)), .sv (.one (.int .i64 (.var 21))), .sv (.one (.int .i64 (.var 149))), .sv (.one (.int .i64 (.var 150))), .sv (.one (.int .u64 (.var 151)))] [] [])) (.ext (.call 3 188 [.sv (.agg (ckCVs 0 gk2)), .sv (.one (.int .i64 (.var 21))), .sv (.one (.int .i64 (.var 149))), .sv (.one (.int .i64 (.var 150))), .sv (.one (.int .u64 (.var 151)))] [] []) (.ext (.alloc 209) (.and (.imp (.eq (.var 149) (.lit 5)) (.post [.ro 180 [] true, .dead, .dead, .dead, .dead, .dead] (.tup [.agg (ckCVs 188 gk2), .one (.int .i64 (.lit 0))]))) (.imp (.not (.eq (.var 149) (.lit 5))) (.and (.e (.le (.lit 0) (.var 154))) (.and (.imp (.not (.beq (.bvar 190) (.lt (.lit 0) (.var 154)))) (.post [.ro 180 [] true, .dead, .dead, .dead, .dead, .dead] (.tup [.agg z21, .one (.int .i64 (.lit 2))]))) (.imp (.beq (.bvar 190) (.lt (.lit 0) (.var 154))) (.and (.e (.le (.lit 0) (.var 158))) (.and (.imp (.not (.beq (.bvar 191) (.lt (.lit 0) (.var 158)))) (.post [.ro 180 [] true, .dead, .dead, .dead, .dead, .dead] (.tup [.agg z21, .one (.int .i64 (.lit 2))]))) (.imp (.beq (.bvar 191) (.lt (.lit 0) (.var 158))) (.and (.e (.le (.lit 0) (.var 162))) (.and (.imp (.not (.beq (.bvar 192) (.lt (.lit 0) (.var 162)))) (.post [.ro 180 [] true, .dead, .dead, .dead, .dead, .dead] (.tup [.agg z21, .one (.int .i64 (.lit 2))]))) (.imp (.beq (.bvar 192) (.lt (.lit 0) (.var 162))) (.and (.e (.le (.lit 0) (.var 166))) (.and (.imp (.not (.beq (.bvar 193) (.lt (.lit 0) (.var 166)))) (.post [.ro 180 [] true, .dead, .dead, .dead, .dead, .dead] (.tup [.agg z21, .one (.int .i64 (.lit 2))]))) (.imp (.beq (.bvar 193) (.lt (.lit 0) (.var 166))) (.and (.e (.le (.lit 0) (.var 170))) (.and (.imp (.not (.beq (.bvar 194) (.lt (.lit 0) (.var 170)))) (.post [.ro 180 [] true, .dead, .dead, .dead, .dead, .dead] (.tup [.agg z21, .one (.int .i64 (.lit 2))]))) (.imp (.beq (.bvar 194) (.lt (.lit 0) (.var 170))) (.and (.e (.le (.lit 0) (.var 174))) (.and (.imp (.not (.beq (.bvar 195) (.lt (.lit 0) (.var 174)))) (.post [.ro 180 [] true, .dead, .dead, .dead, .dead, .dead] (.tup [.agg z21, .one (.int .i64 (.lit 2))]))) (.imp (.beq (.bvar 195) (.lt (.lit 0) (.var 174))) (.post [.ro 180 [] true, .dead, .dead, .dead, .dead, .dead] (.tup [.agg (ckCVs 188 gk2), .one (.int .i64 (.lit 0))])))))))))))))))))))))))))))))))))) (.imp (.not (.bvar 56)) (.post [.ro 180 [] true, .dead, .dead, .dead, .dead] (.tup [.agg z21, .one (.int .i64 (.lit 1))]))))) (.imp (.not (.bvar 185)) (.post [.ro 180 [] true, .dead, .dead, .dead, .dead] (.tup [.agg z21, .one (.int .i64 (.lit 1))])))))))))
def applyW : Walk Try.prog (apΓ HdrOK hForm) 17 where
  Λ := noLoops
  args := (cpSVs 0 apIn).map .sv
  mem := [.ro 180 [] true]
  nv := 181
  nd := applyNd
  ok := by kernel_rfl
theorem ag0 : (apΓ HdrOK hForm)[0]? = some (eFormedS HdrOK hForm) := rfl
theorem ag1 : (apΓ HdrOK hForm)[1]? = some cFormedS := rfl
theorem ag2 : (apΓ HdrOK hForm)[2]? = some mayS2 := rfl
theorem ag3 : (apΓ HdrOK hForm)[3]? = some behindS2 := rfl
theorem ar0 : (eFormedS HdrOK hForm).res = [.one .bool] := rfl
theorem ar1 : cFormedS.res = [.one .bool] := rfl
theorem ar2 : mayS2.res = [.one (.int .i64)] := rfl
theorem ar3 : behindS2.res = [.agg gk2] := rfl
set_option maxRecDepth 20000 in
theorem cpSVs_ap : cpSVs 0 apIn = [.agg (ckCVs 0 gk2), .agg (ckCVs 21 hk2), .agg (ckCVs 149 ck2)] := by
  have h1 : ckLen gk2 = 21 := by decide
  have h2 : ckLen hk2 = 128 := by decide
  simp only [apIn, cpSVs, Cp.sv, Cp.len, h1, h2, Nat.zero_add, Nat.reduceAdd]
theorem ev_ag {a b : Env} {n m : Nat} {ks : List Ck} (h : Agree m a b) (hm : n + ckLen ks ≤ m) : (SV.agg (ckCVs n ks)).ev b = (SV.agg (ckCVs n ks)).ev a := by
  simp only [SV.ev]
  rw [CV.agreeL (h.mono hm) _ (ckCVs_upto ks n)]
set_option maxRecDepth 20000 in
theorem may_pre (q : Env) (a b c : Int) : mayS2.pre [(SV.agg (ckCVs 0 gk2)).ev q, .int .i64 a, .int .i64 b, .int .i64 c] [] [] :=
  ⟨⟨⟨fun k => match k with | 21 => a | 22 => b | 23 => c | k => q.i k, q.b, fun _ => .empty, fun _ => .tuple #[], fun _ => Hl.none⟩, ⟨⟨trivial, trivial, trivial, trivial, trivial, trivial, trivial, trivial, trivial, trivial, trivial, trivial, trivial, trivial, trivial, trivial, trivial, trivial, trivial, trivial, trivial, trivial⟩, trivial, trivial, trivial, trivial⟩, rfl⟩, trivial⟩
set_option maxRecDepth 20000 in
theorem behind_pre (q : Env) (a b c d : Int) : behindS2.pre [(SV.agg (ckCVs 0 gk2)).ev q, .int .i64 a, .int .i64 b, .int .i64 c, .int .u64 d] [] [] :=
  ⟨⟨⟨fun k => match k with | 21 => a | 22 => b | 23 => c | 24 => d | k => q.i k, q.b, fun _ => .empty, fun _ => .tuple #[], fun _ => Hl.none⟩, ⟨⟨trivial, trivial, trivial, trivial, trivial, trivial, trivial, trivial, trivial, trivial, trivial, trivial, trivial, trivial, trivial, trivial, trivial, trivial, trivial, trivial, trivial, trivial⟩, trivial, trivial, trivial, trivial, trivial⟩, rfl⟩, trivial⟩
set_option maxRecDepth 20000 in
theorem cf_pre (q : Env) (h : ckNormsW 149 ck2 q) : cFormedS.pre [(SV.agg (ckCVs 149 ck2)).ev q] [] [] :=
  ⟨⟨⟨fun k => q.i (149 + k), fun k => q.b (149 + k), fun _ => .empty, fun _ => .tuple #[], fun _ => Hl.none⟩, ⟨h, trivial⟩, rfl⟩, trivial⟩
set_option maxRecDepth 20000 in
theorem applyS_ok (he : (eFormedS HdrOK hForm).OK Try.prog) : (applyS HdrOK hForm).OK Try.prog := by
  refine Spec.of_fn (Γ := apΓ HdrOK hForm) (fun t ht => ?_) ?_
  · simp only [apΓ, List.mem_cons, List.mem_nil_iff, or_false] at ht
    rcases ht with rfl | rfl | rfl | rfl
    · exact he
    · exact cFormedS_ok
    · exact mayS2_ok
    · exact behindS2_ok
  rintro xs Hs Rs hl1 hl2 ⟨q, R, hq, rfl, rfl, hH⟩
  have e0 : Hs = [] := List.length_eq_zero_iff.1 hl1
  subst e0
  refine ⟨applyW HdrOK hForm, { q with h := fun _ => R }, fun _ _ => True, fun _ _ => 0, ?_, ⟨?_, ?_, ?_, ?_⟩, (fun _ h => nomatch h), ?_⟩
  · rfl
  · intro r hr ho; simp [applyW] at hr; subst hr; cases ho
  · intro r hr ho; simp [applyW] at hr; subst hr; exact ⟨R, by simp, Hl.le_refl _⟩
  · simp [applyW]
  · intro r hr; simp [applyW] at hr; subst hr; trivial
  · show Nd.holds _ _ _ applyNd
    unfold applyNd
    simp only [Nd.holds, X.pre, X.rel, X.n, ag0, ag1, ag2, ag3, ar0, ar1, ar2, ar3, newHs_zero, bT_tt, bT_ff, bT_bvar, bT_not, bT_and, bT_or, bT_ite, bT_lt, bT_le, bT_eq, bT_beq, bT_seq, bT_hB, bT_his, bT_hby, bT_hism, bT_hks, iev_lit, iev_var, List.map_cons, List.map_nil, List.length_nil, Nat.add_zero]
    generalize hH' : (SV.agg (ckCVs 21 hk2)).ev q = H at hH
    have hn : ckNormsW 149 ck2 q := hq.2.2.1
    have hin : inVs apIn q = [(SV.agg (ckCVs 0 gk2)).ev q, H, (SV.agg (ckCVs 149 ck2)).ev q] := by
      unfold inVs; rw [cpSVs_ap, List.map_cons, List.map_cons, List.map_cons, List.map_nil, hH']
    rw [hin]
    have fin : ∀ (ρ : Env) (mem : Mem) (r : TV) (g : Grp) (e : Int), r.ev ρ = applyV (g, e) → applyR (hForm H R) ((SV.agg (ckCVs 0 gk2)).ev q) H ((SV.agg (ckCVs 149 ck2)).ev q) = (g, e) →
        postOf (applyS HdrOK hForm) [(SV.agg (ckCVs 0 gk2)).ev q, H, (SV.agg (ckCVs 149 ck2)).ev q] [] [R] ρ mem r := by
      intro ρ mem r g e hr ha _
      obtain ⟨ρ2, h1, h2⟩ := shape_apply g e
      exact ⟨[], [], rfl, rfl, ⟨ρ2, by rw [hr, h1]; rfl, h2⟩, _, _, _, R, rfl, rfl, by rw [hr, ha]⟩
    have hw : q.i 21 = atI H 0 := by rw [← hH']; rfl
    have hc : q.b 56 = atB H 35 := by rw [← hH']; rfl
    intro q1 g1 _ q2 g2 _ q3 g3 _ q4 g4 _
    have G4 : Agree 181 ({ q with h := fun _ => R } : Env) q4 := ((g1.trans (g2.mono (by omega))).trans (g3.mono (by omega))).trans (g4.mono (by omega))
    have evH : ∀ r, Agree 181 ({ q with h := fun _ => R } : Env) r → (SV.agg (ckCVs 21 hk2)).ev r = H := fun r g => by
      rw [ev_ag g (by decide), ← hH']; rfl
    have evC : ∀ r, Agree 181 ({ q with h := fun _ => R } : Env) r → (SV.agg (ckCVs 149 ck2)).ev r = (SV.agg (ckCVs 149 ck2)).ev q := fun r g => by
      rw [ev_ag g (by decide)]; rfl
    have evG : ∀ r, Agree 181 ({ q with h := fun _ => R } : Env) r → (SV.agg (ckCVs 0 gk2)).ev r = (SV.agg (ckCVs 0 gk2)).ev q := fun r g => by
      rw [ev_ag g (by decide)]; rfl
    have hl : (Res.ro 180 [] true).hl q4 = R := G4.h 180 (by omega)
    simp only [TV.ev, evH q4 G4, hl]
    refine ⟨⟨H, R, rfl, rfl, hH⟩, fun q5 g5 ⟨_, ⟨h', R', hx, hR', hv⟩, _⟩ => ?_⟩
    cases hx; cases hR'
    have hv : q5.b 185 = hForm H R := Value.bool.inj hv
    have G5 : Agree 181 ({ q with h := fun _ => R } : Env) q5 := G4.trans (g5.mono (by omega))
    have b56 : q5.b 56 = atB H 35 := by rw [G5.b 56 (by omega)]; exact hc
    refine ⟨fun hfb => ⟨fun h56 => ?_, fun h56 => fin _ _ _ g0 1 rfl ?_⟩, fun hfb => fin _ _ _ g0 1 rfl ?_⟩
    · generalize hGq : (SV.agg (ckCVs 0 gk2)).ev q = Gq at fin evG
      generalize hCq : (SV.agg (ckCVs 149 ck2)).ev q = Cq at fin evC
      have c0 : q.i 149 = atI Cq 0 := by rw [← hCq]; rfl
      have c1 : q.i 150 = atI Cq 1 := by rw [← hCq]; rfl
      have c2 : q.i 151 = atI Cq 2 := by rw [← hCq]; rfl
      rw [evC q5 G5]
      refine ⟨by rw [← hCq]; exact cf_pre q hn, fun q6 g6 ⟨_, hp, _⟩ => ?_⟩
      have h6 : q6.b 186 = cFormedV Cq := Value.bool.inj hp
      clear hp
      have G6 : Agree 181 ({ q with h := fun _ => R } : Env) q6 := G5.trans (g6.mono (by omega))
      have h185 : q6.b 185 = q5.b 185 := g6.b 185 (by omega)
      have i21 : q6.i 21 = atI H 0 := (G6.i 21 (by omega)).trans hw
      have i149 : q6.i 149 = atI Cq 0 := (G6.i 149 (by omega)).trans c0
      have i150 : q6.i 150 = atI Cq 1 := (G6.i 150 (by omega)).trans c1
      have fb : ∀ b : Bool, cFormedV Cq = b → applyR (hForm H R) Gq H Cq = applyF b (gOfV Gq) (atI H 0) (atI Cq 0) (atI Cq 1) (atI Cq 2) (lsV Cq) := by
        intro b hb
        unfold applyR
        rw [← hv, ← b56, hfb, h56, hb]; rfl
      refine ⟨fun hcb => fin _ _ _ g0 1 rfl ?_, fun hcb => ?_⟩
      · rw [fb false (by rw [← h6]; exact Bool.eq_false_iff.2 hcb)]; rfl
      · have fb := fb true (by rw [← h6]; exact hcb)
        rw [evG q6 G6]
        refine ⟨by rw [← hGq]; exact may_pre q _ _ _, fun q7 g7 ⟨_, hp, _⟩ => ?_⟩
        have h7 : q7.i 187 = mayOf (gOfV Gq) (q6.i 21) (q6.i 149) (q6.i 150) := (Value.int.inj hp).2
        clear hp
        rw [i21, i149, i150] at h7
        have G7 : Agree 181 ({ q with h := fun _ => R } : Env) q7 := G6.trans (g7.mono (by omega))
        have j21 : q7.i 21 = atI H 0 := (G7.i 21 (by omega)).trans hw
        have j149 : q7.i 149 = atI Cq 0 := (G7.i 149 (by omega)).trans c0
        have j150 : q7.i 150 = atI Cq 1 := (G7.i 150 (by omega)).trans c1
        have j151 : q7.i 151 = atI Cq 2 := (G7.i 151 (by omega)).trans c2
        refine ⟨fun hne => fin _ _ _ g0 (q7.i 187) rfl ?_, fun h0 => ?_⟩
        · rw [fb]; unfold applyF
          rw [if_neg (by simp), if_pos (by rw [← h7]; exact hne), h7]
        · rw [evG q7 G7]
          refine ⟨by rw [← hGq]; exact behind_pre q _ _ _ _, fun q8 g8 ⟨_, hp, _⟩ => ?_⟩
          have h8 : (SV.agg (ckCVs 188 gk2)).ev q8 = gV (behind (gOfV Gq) (q7.i 21) (q7.i 149) (q7.i 150) (q7.i 151)) := hp
          clear hp
          rw [j21, j149, j150, j151] at h8
          generalize hB : behind (gOfV Gq) (atI H 0) (atI Cq 0) (atI Cq 1) (atI Cq 2) = B at h8
          have fb2 : applyR (hForm H R) Gq H Cq = if atI Cq 0 = 5 then (B, 0) else if (List.range 6).all (fun k => B.mem k == decide (0 < (lsV Cq).getD k 0)) then (B, 0) else (g0, 2) := by
            rw [fb]; unfold applyF
            rw [if_neg (by simp), if_neg (by rw [← h7]; omega), hB]
          intro q9 g9 _
          have G9 : Agree 181 ({ q with h := fun _ => R } : Env) q9 := (G7.trans (g8.mono (by omega))).trans (g9.mono (by omega))
          have hB9 : (TV.tup [.agg (ckCVs 188 gk2), .one (.int .i64 (.lit 0))]).ev q9 = applyV (B, 0) := by
            show Value.tuple #[(SV.agg (ckCVs 188 gk2)).ev q9, .int .i64 0] = _
            rw [ev_ag g9 (by decide), h8]; rfl
          have m0 : B.mem 0 = q9.b 190 := by rw [g9.b 190 (by omega)]; exact (congrArg (fun v => atB v 2) h8).symm
          have m1 : B.mem 1 = q9.b 191 := by rw [g9.b 191 (by omega)]; exact (congrArg (fun v => atB v 3) h8).symm
          have m2 : B.mem 2 = q9.b 192 := by rw [g9.b 192 (by omega)]; exact (congrArg (fun v => atB v 4) h8).symm
          have m3 : B.mem 3 = q9.b 193 := by rw [g9.b 193 (by omega)]; exact (congrArg (fun v => atB v 5) h8).symm
          have m4 : B.mem 4 = q9.b 194 := by rw [g9.b 194 (by omega)]; exact (congrArg (fun v => atB v 6) h8).symm
          have m5 : B.mem 5 = q9.b 195 := by rw [g9.b 195 (by omega)]; exact (congrArg (fun v => atB v 7) h8).symm
          have z0 : 0 ≤ q.i 154 := hn.2.2.2.1.2.2.1
          have l0 : (lsV Cq).getD 0 0 = q9.i 154 := by rw [G9.i 154 (by omega), ← hCq]; exact Int.toNat_of_nonneg z0
          have n0 : 0 ≤ q9.i 154 := by rw [G9.i 154 (by omega)]; exact z0
          have z1 : 0 ≤ q.i 158 := hn.2.2.2.2.1.2.2.1
          have l1 : (lsV Cq).getD 1 0 = q9.i 158 := by rw [G9.i 158 (by omega), ← hCq]; exact Int.toNat_of_nonneg z1
          have n1 : 0 ≤ q9.i 158 := by rw [G9.i 158 (by omega)]; exact z1
          have z2 : 0 ≤ q.i 162 := hn.2.2.2.2.2.1.2.2.1
          have l2 : (lsV Cq).getD 2 0 = q9.i 162 := by rw [G9.i 162 (by omega), ← hCq]; exact Int.toNat_of_nonneg z2
          have n2 : 0 ≤ q9.i 162 := by rw [G9.i 162 (by omega)]; exact z2
          have z3 : 0 ≤ q.i 166 := hn.2.2.2.2.2.2.1.2.2.1
          have l3 : (lsV Cq).getD 3 0 = q9.i 166 := by rw [G9.i 166 (by omega), ← hCq]; exact Int.toNat_of_nonneg z3
          have n3 : 0 ≤ q9.i 166 := by rw [G9.i 166 (by omega)]; exact z3
          have z4 : 0 ≤ q.i 170 := hn.2.2.2.2.2.2.2.1.2.2.1
          have l4 : (lsV Cq).getD 4 0 = q9.i 170 := by rw [G9.i 170 (by omega), ← hCq]; exact Int.toNat_of_nonneg z4
          have n4 : 0 ≤ q9.i 170 := by rw [G9.i 170 (by omega)]; exact z4
          have z5 : 0 ≤ q.i 174 := hn.2.2.2.2.2.2.2.2.1.2.2.1
          have l5 : (lsV Cq).getD 5 0 = q9.i 174 := by rw [G9.i 174 (by omega), ← hCq]; exact Int.toNat_of_nonneg z5
          have n5 : 0 ≤ q9.i 174 := by rw [G9.i 174 (by omega)]; exact z5
          have S : (List.range 6).all (fun k => B.mem k == decide (0 < (lsV Cq).getD k 0)) = ((q9.b 190 == decide (0 < q9.i 154)) && ((q9.b 191 == decide (0 < q9.i 158)) && ((q9.b 192 == decide (0 < q9.i 162)) && ((q9.b 193 == decide (0 < q9.i 166)) && ((q9.b 194 == decide (0 < q9.i 170)) && ((q9.b 195 == decide (0 < q9.i 174)) && true)))))) := by
            show ((B.mem 0 == decide (0 < (lsV Cq).getD 0 0)) && ((B.mem 1 == decide (0 < (lsV Cq).getD 1 0)) && ((B.mem 2 == decide (0 < (lsV Cq).getD 2 0)) && ((B.mem 3 == decide (0 < (lsV Cq).getD 3 0)) && ((B.mem 4 == decide (0 < (lsV Cq).getD 4 0)) && ((B.mem 5 == decide (0 < (lsV Cq).getD 5 0)) && true)))))) = _
            rw [m0, l0, m1, l1, m2, l2, m3, l3, m4, l4, m5, l5]
          rw [S] at fb2
          have c3 : ((q9.b 190 = true) = (0 < q9.i 154)) = ((q9.b 190 == decide (0 < q9.i 154)) = true) := by cases q9.b 190 <;> simp
          have c4 : ((q9.b 191 = true) = (0 < q9.i 158)) = ((q9.b 191 == decide (0 < q9.i 158)) = true) := by cases q9.b 191 <;> simp
          have c5 : ((q9.b 192 = true) = (0 < q9.i 162)) = ((q9.b 192 == decide (0 < q9.i 162)) = true) := by cases q9.b 192 <;> simp
          have c6 : ((q9.b 193 = true) = (0 < q9.i 166)) = ((q9.b 193 == decide (0 < q9.i 166)) = true) := by cases q9.b 193 <;> simp
          have c7 : ((q9.b 194 = true) = (0 < q9.i 170)) = ((q9.b 194 == decide (0 < q9.i 170)) = true) := by cases q9.b 194 <;> simp
          have c8 : ((q9.b 195 = true) = (0 < q9.i 174)) = ((q9.b 195 == decide (0 < q9.i 174)) = true) := by cases q9.b 195 <;> simp
          simp only [c3, c4, c5, c6, c7, c8]
          generalize (q9.b 190 == decide (0 < q9.i 154)) = e0 at fb2
          generalize (q9.b 191 == decide (0 < q9.i 158)) = e1 at fb2
          generalize (q9.b 192 == decide (0 < q9.i 162)) = e2 at fb2
          generalize (q9.b 193 == decide (0 < q9.i 166)) = e3 at fb2
          generalize (q9.b 194 == decide (0 < q9.i 170)) = e4 at fb2
          generalize (q9.b 195 == decide (0 < q9.i 174)) = e5 at fb2
          have h149 : q9.i 149 = atI Cq 0 := (G9.i 149 (by omega)).trans c0
          rw [h149]
          refine ⟨fun h5 => fin _ _ _ B 0 hB9 (by rw [fb2, if_pos h5]), fun h5 => ?_⟩
          have fb3 := fb2
          rw [if_neg h5] at fb3
          exact ⟨n0, fun h0 => fin _ _ _ g0 2 rfl (by rw [fb3]; simp [h0]), fun h0 => ⟨n1, fun h1 => fin _ _ _ g0 2 rfl (by rw [fb3]; simp [h1]), fun h1 => ⟨n2, fun h2 => fin _ _ _ g0 2 rfl (by rw [fb3]; simp [h2]), fun h2 => ⟨n3, fun h3 => fin _ _ _ g0 2 rfl (by rw [fb3]; simp [h3]), fun h3 => ⟨n4, fun h4 => fin _ _ _ g0 2 rfl (by rw [fb3]; simp [h4]), fun h4 => ⟨n5, fun h5 => fin _ _ _ g0 2 rfl (by rw [fb3]; simp [h5]), fun h5 => fin _ _ _ B 0 hB9 (by rw [fb3]; simp [h0, h1, h2, h3, h4, h5])⟩⟩⟩⟩⟩⟩
    · unfold applyR applyF
      rw [← b56, Bool.eq_false_iff.2 h56]
      simp
    · unfold applyR applyF
      rw [← hv, Bool.eq_false_iff.2 hfb]
      simp
end
end Go.Proofs.Ytngboefkhfldgaa.V2
