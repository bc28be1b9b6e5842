/- Layer 22: the reference's Formed, as a contract: the same as ask.Formed. Condition: bytes below 256. -/
import Derived.Test.YtkdllpialpfopaaAqD
set_option linter.unusedSimpArgs false
set_option linter.unusedVariables false
set_option linter.constructorNameAsVariable false
namespace Go.Proofs.Ytkdllpialpfopaa
open Go Go.Sx Go.Pk

theorem rowOK_drop : ∀ {n : Nat} {l : List Value} {ks : List Kd}, rowOK l ks → rowOK (l.drop n) (ks.drop n)
  | 0, _, _, h => h
  | _ + 1, [], [], _ => trivial
  | n + 1, _ :: _, _ :: _, h => rowOK_drop (n := n) h.2
  | _ + 1, [], _ :: _, h => False.elim h
  | _ + 1, _ :: _, [], h => False.elim h
theorem rowOK_take : ∀ {n : Nat} {l : List Value} {ks : List Kd}, rowOK l ks → rowOK (l.take n) (ks.take n)
  | 0, _, _, _ => trivial
  | _ + 1, [], [], _ => trivial
  | n + 1, _ :: _, _ :: _, h => ⟨h.1, rowOK_take (n := n) h.2⟩
  | _ + 1, [], _ :: _, h => False.elim h
  | _ + 1, _ :: _, [], h => False.elim h
theorem rq_pc {R1 R2 R3 : Hl} {ρ : Env} {r : Rq} (hx : IsRq R1 R2 R3 (qrow ρ) r) : IsPc R1 R2 ((ckCVs 2 (hk2 ++ [Ck.sl])).map (CV.ev ρ)) ⟨r.h, r.b⟩ := by
  have e : (ckCVs 2 (hk2 ++ [Ck.sl])).map (CV.ev ρ) = ((qrow ρ).drop 2).take 126 := by kernel_rfl
  have e1 : (((qrow ρ).drop 2).take 126).take 125 = hrow ρ 2 := by kernel_rfl
  have e2 : (((qrow ρ).drop 2).take 126).getD 125 noV = .slice (slP (ρ.i 130) (ρ.i 131)) (ρ.i 132).toNat (ρ.i 133).toNat := by kernel_rfl
  have e3 : pkd = (qkd.drop 2).take 126 := by kernel_rfl
  rw [e]
  refine ⟨?_, ?_, ?_, hx.byte, hx.len⟩
  · rw [e3]; exact rowOK_take (rowOK_drop hx.ok)
  · rw [e1]; exact rq_h hx
  · rw [e2]; exact rq_b hx
open Classical in
theorem blank_post {row : List Value} {R1 R2 : Hl} {p : Pc} {v : Value} {Hs K : List Hl} {F : Hl} (x : IsPc R1 R2 row p) (hp : blankS.post [.agg row.toArray] Hs [R1, R2] v K F) : (v = .bool true ↔ p.b = [] ∧ p.h = hz) := by
  obtain ⟨row', R1', R2', p', e1, e2, x', hv⟩ := hp
  simp only [List.cons.injEq, Value.agg.injEq, and_true] at e1 e2
  obtain ⟨rfl, rfl⟩ := e2
  obtain rfl := List.toArray_inj e1
  rw [x.uniq x', hv]
  simp only [Value.bool.injEq]
  exact ⟨fun h => (of_decide_eq_true h : p'.Blank), fun h => @decide_eq_true p'.Blank _ h⟩
theorem raqg0 : raqΓ[0]? = some (formS 19) := rfl
theorem raqg1 : raqΓ[1]? = some (sortS 20) := rfl
theorem raqg2 : raqΓ[2]? = some blankS := rfl
theorem raqr2 : blankS.res = [.one .bool] := rfl
theorem ckLen_pk : ckLen (hk2 ++ [Ck.sl]) = 132 := by kernel_rfl
/-- What the ways come together under. -/
def fqInv (ρ : Env) (r : Rq) (j : Nat) (q : Env) : Prop :=
  (j = 1 → (q.b 160 = true ↔ ¬ (zer ρ.i 134 6 ∧ ¬ (ρ.b 140 = true) ∧ (ρ.i 143).toNat = 0 ∧ ρ.i 145 = 0))) ∧ (j = 2 → (q.b 161 = true ↔ ¬ (ρ.i 146 = 0 ∧ ρ.i 147 = 0))) ∧ (j = 3 → (q.b 162 = true ↔ (ρ.i 143).toNat ≤ 8 ∧ SortedT r.w ∧ (ρ.b 140 = true → (ρ.i 143).toNat = 0)))
set_option maxHeartbeats 4000000 in
theorem rFormQ_ok : (formQ 8).OK Try.prog := by
  refine Spec.of_fn (Γ := raqΓ) raqΓ_ok ?_
  rintro xs Hs Rs hl1 hl2 ⟨row, R1, R2, R3, r, rfl, rfl, hx⟩
  have e0 : Hs = [] := List.length_eq_zero_iff.1 hl1
  subst e0
  obtain ⟨ρ, rfl, hn, hh⟩ := row_env [(150, R1), (151, R2), (152, R3)] hx.ok
  have hx : IsRq R1 R2 R3 (qrow ρ) r := hx
  have w150 : ρ.h 150 = R1 := hh 150
  have w151 : ρ.h 151 = R2 := hh 151
  have w152 : ρ.h 152 = R3 := hh 152
  refine ⟨rqFormW, ρ, fqInv ρ r, fun _ _ => 0, by kernel_rfl, ⟨?_, ?_, ?_, ?_⟩, (fun _ h => nomatch h), ?_⟩
  · intro r hr ho; simp [rqFormW, rqMem] at hr; rcases hr with rfl | rfl | rfl <;> cases ho
  · intro r hr ho; simp [rqFormW, rqMem] at hr
    rcases hr with rfl | rfl | rfl
    · exact ⟨R1, by simp, by show (ρ.h 150).le R1; rw [w150]; exact Hl.le_refl _⟩
    · exact ⟨R2, by simp, by show (ρ.h 151).le R2; rw [w151]; exact Hl.le_refl _⟩
    · exact ⟨R3, by simp, by show (ρ.h 152).le R3; rw [w152]; exact Hl.le_refl _⟩
  · simp [rqFormW, rqMem, Res.own]
  · intro r hr; simp [rqFormW, rqMem] at hr; rcases hr with rfl | rfl | rfl <;> trivial
  · show Nd.holds _ _ _ rqFormNd
    obtain ⟨n1, n2, n3⟩ := qnorms hn
    have out : ∀ {q : Env} {e : E} {mem : Mem}, (bev q e = true ↔ r.Form) → postOf (formQ 8) [.agg ((ckCVs 0 qk2).map (CV.ev ρ)).toArray] [] [R1, R2, R3] q mem (.sv (.one (.bool e))) := by
      intro q e mem he _
      exact ⟨[], [], rfl, rfl, ⟨⟨fun _ => 0, fun _ => bev q e, fun _ => .empty, fun _ => .tuple #[], fun _ => Hl.none⟩, rfl, trivial, trivial⟩, _, R1, R2, R3, r, rfl, rfl, hx, boolV he⟩
    have hH := rq_h hx
    have hB := rq_b hx
    have hW := rq_w hx
    have hP := rq_pc hx
    have E := rq_form hx
    have hz5 : ((Pc.mk r.h r.b).b = [] ∧ (Pc.mk r.h r.b).h = hz) ↔ ((ρ.i 132).toNat = 0 ∧ r.h = hz) := by
      show (r.b = [] ∧ r.h = hz) ↔ _
      have lb : (ρ.i 132).toNat = r.b.length := by
        obtain ⟨x, y, c, e, _⟩ := hB
        simp only [Value.slice.injEq] at e
        exact e.2.1
      rw [lb, List.length_eq_zero_iff]
    obtain ⟨z1, hz1⟩ := as_int (zer ρ.i 134 6)
    obtain ⟨z2, hz2⟩ := as_int (ρ.b 140 = true)
    obtain ⟨z3, hz3⟩ := as_int r.h.Form
    obtain ⟨z4, hz4⟩ := as_int (SortedT r.w)
    obtain ⟨z6, hz6⟩ := as_int (r.h = hz)
    rw [hz1, hz2, hz3, hz4, hz6] at E
    have hz5 : ((Pc.mk r.h r.b).b = [] ∧ (Pc.mk r.h r.b).h = hz) ↔ ((ρ.i 132).toNat = 0 ∧ z6 = 1) := hz5.trans (and_congr Iff.rfl hz6)
    rw [E] at out
    clear E
    generalize postOf (formQ 8) [.agg ((ckCVs 0 qk2).map (CV.ev ρ)).toArray] [] [R1, R2, R3] = L at out
    have ff : ∀ {q : Env} {mem : Mem}, ¬ _ → L q mem (.sv (.one (.bool .ff))) := fun {q mem} hf => out (q := q) (e := .ff) (mem := mem) ⟨fun e => (by rw [bev_ff] at e; cases e), fun e => absurd e hf⟩
    have iv1 : ∀ {q : Env} {e : E}, (bev q e = true ↔ _) → fqInv ρ r 1 (assign q [⟨160, 1, .bool e⟩] []) := fun {q e} h => ⟨fun _ => h, fun h => (by cases h), fun h => (by cases h)⟩
    have iv2 : ∀ {q : Env} {e : E}, (bev q e = true ↔ _) → fqInv ρ r 2 (assign q [⟨161, 1, .bool e⟩] []) := fun {q e} h => ⟨fun h => (by cases h), fun _ => h, fun h => (by cases h)⟩
    have iv3 : ∀ {q : Env} {e : E}, (bev q e = true ↔ _) → fqInv ρ r 3 (assign q [⟨162, 1, .bool e⟩] []) := fun {q e} h => ⟨fun h => (by cases h), fun h => (by cases h), fun _ => h⟩
    have u1 : ∀ {q : Env}, fqInv ρ r 1 q → (q.b 160 = true) = _ := fun h => propext (h.1 rfl)
    have u2 : ∀ {q : Env}, fqInv ρ r 2 q → (q.b 161 = true) = _ := fun h => propext (h.2.1 rfl)
    have u3 : ∀ {q : Env}, fqInv ρ r 3 q → (q.b 162 = true) = _ := fun h => propext (h.2.2 rfl)
    rw [hz1, hz2] at iv1 u1
    rw [hz2, hz4] at iv3 u3
    generalize fqInv ρ r = Inv at iv1 iv2 iv3 u1 u2 u3
    unfold rqFormNd
    simp only [Nd.holds, X.pre, X.rel, X.n, Src.ok, Src.len, Src.vals, true_and, and_true, if_true, Nat.mul_one, Nat.add_zero, Nat.reduceAdd, List.length_cons, List.length_nil, bT_tt, bT_ff, bT_bvar, bT_not, bT_and, bT_or, bT_ite, bT_lt, bT_le, bT_eq, bT_beq, bT_seq, bT_hB, bT_his, bT_hby, bT_hism, bT_hks, iev_lit, iev_var, iev_add, iev_sub, iev_mul, iev_wrap, iev_ite, iev_hI, iev_hP, iev_hmlen, sev_ite, sev_slit, sev_sof, sev_svar, TV.ev, SV.ev, CV.ev, List.map_cons, List.map_nil, Res.hl, cpTV, Cp.sv, Ck.cv, cpSVs, Cp.len, Ck.len, newHs_zero, newHs_one, roots_ne, raqg0, raqg1, raqg2, hr0, fr0, raqr2, sc2, zc134]
    intro q1 g1 _
    have G1 : Agree 153 ρ q1 := g1
    simp only [G1.i, G1.b, G1.h, ag_zer G1, ag_row G1, ckLen_hk, ckLen_pk, hzC_ev, w150, w151, w152, Nat.reduceAdd, Nat.reduceLeDiff, Nat.reduceLT, hz1, hz2]
    (repeat' (first | refine And.intro ?_ ?_ | refine impI (fun _ => ?_)))
    all_goals (first | omega | exact ff (by omega) | (refine out ?_; simp only [bT_eq, bT_le, bT_tt, iev_var, iev_lit, G1.i, Nat.reduceLT]; omega) | (refine iv1 ?_; simp only [bT_not, bT_eq, bT_tt, true_iff, iev_var, iev_lit, G1.i, Nat.reduceLT]; omega) | (refine iv2 ?_; simp only [bT_not, bT_eq, bT_tt, true_iff, iev_var, iev_lit, G1.i, Nat.reduceLT]; omega) | (refine iv3 ?_; simp only [bT_not, bT_eq, bT_tt, bT_ff, true_iff, false_iff, iev_var, iev_lit, G1.i, Nat.reduceLT]; omega) | skip)
    intro q2 g2 hi
    have G2 : Agree 153 ρ q2 := G1.trans (g2.mono (by omega))
    have k1 := u1 hi
    simp only [G2.i, G2.b, G2.h, ag_zer G2, ag_row G2, ckLen_hk, ckLen_pk, hzC_ev, w150, w151, w152, Nat.reduceAdd, Nat.reduceLeDiff, Nat.reduceLT, hz1, hz2]
    (repeat' (first | refine And.intro ?_ ?_ | refine impI (fun _ => ?_)))
    all_goals (first | omega | exact ff (by omega) | (refine out ?_; simp only [bT_eq, bT_le, bT_tt, iev_var, iev_lit, G2.i, Nat.reduceLT]; omega) | (refine iv1 ?_; simp only [bT_not, bT_eq, bT_tt, true_iff, iev_var, iev_lit, G2.i, Nat.reduceLT]; omega) | (refine iv2 ?_; simp only [bT_not, bT_eq, bT_tt, true_iff, iev_var, iev_lit, G2.i, Nat.reduceLT]; omega) | (refine iv3 ?_; simp only [bT_not, bT_eq, bT_tt, bT_ff, true_iff, false_iff, iev_var, iev_lit, G2.i, Nat.reduceLT]; omega) | skip)
    intro q3 g3 hi
    have G3 : Agree 153 ρ q3 := G2.trans (g3.mono (by omega))
    have k2 := u2 hi
    rw [← g3.b 160 (by omega)] at k1
    simp only [G3.i, G3.b, G3.h, ag_zer G3, ag_row G3, ckLen_hk, ckLen_pk, hzC_ev, w150, w151, w152, Nat.reduceAdd, Nat.reduceLeDiff, Nat.reduceLT, hz1, hz2, k1, k2]
    (repeat' (first | refine And.intro ?_ ?_ | refine impI (fun _ => ?_)))
    all_goals (first | omega | exact ff (by omega) | (refine out ?_; simp only [bT_eq, bT_le, bT_tt, iev_var, iev_lit, G3.i, Nat.reduceLT]; omega) | (refine iv1 ?_; simp only [bT_not, bT_eq, bT_tt, true_iff, iev_var, iev_lit, G3.i, Nat.reduceLT]; omega) | (refine iv2 ?_; simp only [bT_not, bT_eq, bT_tt, true_iff, iev_var, iev_lit, G3.i, Nat.reduceLT]; omega) | (refine iv3 ?_; simp only [bT_not, bT_eq, bT_tt, bT_ff, true_iff, false_iff, iev_var, iev_lit, G3.i, Nat.reduceLT]; omega) | skip)
    · exact ⟨_, R1, r.h, rfl, rfl, hH⟩
    · intro q4 g4 ⟨F, hp, _⟩
      have G4 : Agree 153 ρ q4 := G3.trans (g4.mono (by omega))
      rw [formd_res hH hp, hz3]
      simp only [G4.i, G4.b, G4.h, ag_zer G4, ag_row G4, ckLen_hk, ckLen_pk, hzC_ev, w150, w151, w152, Nat.reduceAdd, Nat.reduceLeDiff, Nat.reduceLT, hz1, hz2]
      (repeat' (first | refine And.intro ?_ ?_ | refine impI (fun _ => ?_)))
      all_goals (first | omega | exact ff (by omega) | (refine out ?_; simp only [bT_eq, bT_le, bT_tt, iev_var, iev_lit, G4.i, Nat.reduceLT]; omega) | (refine iv1 ?_; simp only [bT_not, bT_eq, bT_tt, true_iff, iev_var, iev_lit, G4.i, Nat.reduceLT]; omega) | (refine iv2 ?_; simp only [bT_not, bT_eq, bT_tt, true_iff, iev_var, iev_lit, G4.i, Nat.reduceLT]; omega) | (refine iv3 ?_; simp only [bT_not, bT_eq, bT_tt, bT_ff, true_iff, false_iff, iev_var, iev_lit, G4.i, Nat.reduceLT]; omega) | skip)
    · exact ⟨_, R3, r.w, rfl, rfl, hW, hx.toks⟩
    · intro q4 g4 ⟨F, hp, _⟩
      have G4 : Agree 153 ρ q4 := G3.trans (g4.mono (by omega))
      rw [sort_res hW hp, hz4]
      simp only [G4.i, G4.b, G4.h, ag_zer G4, ag_row G4, ckLen_hk, ckLen_pk, hzC_ev, w150, w151, w152, Nat.reduceAdd, Nat.reduceLeDiff, Nat.reduceLT, hz1, hz2]
      (repeat' (first | refine And.intro ?_ ?_ | refine impI (fun _ => ?_)))
      all_goals (first | omega | exact ff (by omega) | (refine out ?_; simp only [bT_eq, bT_le, bT_tt, iev_var, iev_lit, G4.i, Nat.reduceLT]; omega) | (refine iv1 ?_; simp only [bT_not, bT_eq, bT_tt, true_iff, iev_var, iev_lit, G4.i, Nat.reduceLT]; omega) | (refine iv2 ?_; simp only [bT_not, bT_eq, bT_tt, true_iff, iev_var, iev_lit, G4.i, Nat.reduceLT]; omega) | (refine iv3 ?_; simp only [bT_not, bT_eq, bT_tt, bT_ff, true_iff, false_iff, iev_var, iev_lit, G4.i, Nat.reduceLT]; omega) | skip)
    · intro q4 g4 hi
      have G4 : Agree 153 ρ q4 := G3.trans (g4.mono (by omega))
      have k3 := u3 hi
      rw [← g4.b 161 (by omega)] at k2
      simp only [G4.i, G4.b, G4.h, ag_zer G4, ag_row G4, ckLen_hk, ckLen_pk, hzC_ev, w150, w151, w152, Nat.reduceAdd, Nat.reduceLeDiff, Nat.reduceLT, hz1, hz2]
      refine ⟨⟨_, R1, R2, _, rfl, rfl, hP⟩, ?_⟩
      intro q5 g5 ⟨F, hp, _⟩
      have G5 : Agree 153 ρ q5 := G4.trans (g5.mono (by omega))
      rw [bvT (blank_post hP hp), hz5, g5.b 161 (by omega), k2]
      rw [← g5.b 162 (by omega)] at k3
      (repeat' (first | refine And.intro ?_ ?_ | refine impI (fun _ => ?_)))
      all_goals (first | omega | exact ff (by omega) | (refine out ?_; simp only [bT_eq, bT_le, bT_tt, iev_var, iev_lit, G5.i, Nat.reduceLT]; omega) | (refine iv1 ?_; simp only [bT_not, bT_eq, bT_tt, true_iff, iev_var, iev_lit, G5.i, Nat.reduceLT]; omega) | (refine iv2 ?_; simp only [bT_not, bT_eq, bT_tt, true_iff, iev_var, iev_lit, G5.i, Nat.reduceLT]; omega) | (refine iv3 ?_; simp only [bT_not, bT_eq, bT_tt, bT_ff, true_iff, false_iff, iev_var, iev_lit, G5.i, Nat.reduceLT]; omega) | skip)
      intro q6 g6 _
      have G6 : Agree 153 ρ q6 := G5.trans (g6.mono (by omega))
      rw [← g6.b 162 (by omega)] at k3
      simp only [G6.i, G6.b, G6.h, ag_zer G6, ag_row G6, ckLen_hk, ckLen_pk, hzC_ev, w150, w151, w152, Nat.reduceAdd, Nat.reduceLeDiff, Nat.reduceLT, hz1, hz2, k3]
      (repeat' (first | refine And.intro ?_ ?_ | refine impI (fun _ => ?_)))
      all_goals (first | omega | exact ff (by omega) | (refine out ?_; simp only [bT_eq, bT_le, bT_tt, iev_var, iev_lit, G6.i, Nat.reduceLT]; omega) | (refine iv1 ?_; simp only [bT_not, bT_eq, bT_tt, true_iff, iev_var, iev_lit, G6.i, Nat.reduceLT]; omega) | (refine iv2 ?_; simp only [bT_not, bT_eq, bT_tt, true_iff, iev_var, iev_lit, G6.i, Nat.reduceLT]; omega) | (refine iv3 ?_; simp only [bT_not, bT_eq, bT_tt, bT_ff, true_iff, false_iff, iev_var, iev_lit, G6.i, Nat.reduceLT]; omega) | skip)
    · exact ⟨_, R1, R2, _, rfl, rfl, hP⟩
    · intro q4 g4 ⟨F, hp, _⟩
      have G4 : Agree 153 ρ q4 := G3.trans (g4.mono (by omega))
      rw [bvT (blank_post hP hp), hz5]
      rw [← g4.b 160 (by omega)] at k1
      simp only [G4.i, G4.b, G4.h, ag_zer G4, ag_row G4, ckLen_hk, ckLen_pk, hzC_ev, w150, w151, w152, Nat.reduceAdd, Nat.reduceLeDiff, Nat.reduceLT, hz1, hz2, k1]
      (repeat' (first | refine And.intro ?_ ?_ | refine impI (fun _ => ?_)))
      all_goals (first | omega | exact ff (by omega) | (refine out ?_; simp only [bT_eq, bT_le, bT_tt, iev_var, iev_lit, G4.i, Nat.reduceLT]; omega) | (refine iv1 ?_; simp only [bT_not, bT_eq, bT_tt, true_iff, iev_var, iev_lit, G4.i, Nat.reduceLT]; omega) | (refine iv2 ?_; simp only [bT_not, bT_eq, bT_tt, true_iff, iev_var, iev_lit, G4.i, Nat.reduceLT]; omega) | (refine iv3 ?_; simp only [bT_not, bT_eq, bT_tt, bT_ff, true_iff, false_iff, iev_var, iev_lit, G4.i, Nat.reduceLT]; omega) | skip)
end Go.Proofs.Ytkdllpialpfopaa
