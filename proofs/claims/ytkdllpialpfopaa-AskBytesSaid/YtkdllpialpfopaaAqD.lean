/- Layer 22: ask.Formed and the reference's Formed, as contracts: the same of every request. Condition: bytes below 256. -/
import Derived.Test.YtkdllpialpfopaaAqC
set_option linter.unusedSimpArgs false
set_option linter.unusedVariables false
set_option linter.constructorNameAsVariable false
namespace Go.Proofs.Ytkdllpialpfopaa
open Go Go.Sx Go.Pk

def qrow (q : Env) : List Value := (ckCVs 0 qk2).map (CV.ev q)
theorem qrow_hd (q : Env) : ((qrow q).drop 2).take 125 = hrow q 2 := by kernel_rfl
theorem qrow_b (q : Env) : (qrow q).getD 127 noV = .slice (slP (q.i 130) (q.i 131)) (q.i 132).toNat (q.i 133).toNat := by kernel_rfl
theorem qrow_w (q : Env) : (qrow q).getD 135 noV = .slice (slP (q.i 141) (q.i 142)) (q.i 143).toNat (q.i 144).toNat := by kernel_rfl
theorem qrow_n (q : Env) : cI (qrow q) 1 = q.i 1 ∧ cI (qrow q) 94 = q.i 97 ∧ cI (qrow q) 136 = q.i 145 ∧ cI (qrow q) 137 = q.i 146 ∧ cI (qrow q) 138 = q.i 147 ∧ cB (qrow q) 134 = q.b 140 := ⟨by kernel_rfl, by kernel_rfl, by kernel_rfl, by kernel_rfl, by kernel_rfl, by kernel_rfl⟩
theorem qrow_c (q : Env) : cI (qrow q) 128 = q.i 134 ∧ cI (qrow q) 129 = q.i 135 ∧ cI (qrow q) 130 = q.i 136 ∧ cI (qrow q) 131 = q.i 137 ∧ cI (qrow q) 132 = q.i 138 ∧ cI (qrow q) 133 = q.i 139 := ⟨by kernel_rfl, by kernel_rfl, by kernel_rfl, by kernel_rfl, by kernel_rfl, by kernel_rfl⟩
theorem qnorms {q : Env} (hn : ckNormsW 0 qk2 q) : (0 ≤ q.i 56 ∧ 0 ≤ q.i 57 ∧ 0 ≤ q.i 58) ∧ (0 ≤ q.i 131 ∧ 0 ≤ q.i 132 ∧ 0 ≤ q.i 133) ∧ (0 ≤ q.i 142 ∧ 0 ≤ q.i 143 ∧ 0 ≤ q.i 144) := by
  have e1 : qk2 = qk2.take 55 ++ (.sl :: qk2.drop 56) := by kernel_rfl
  have e2 : qk2 = qk2.take 127 ++ (.sl :: qk2.drop 128) := by kernel_rfl
  have e3 : qk2 = qk2.take 135 ++ (.sl :: qk2.drop 136) := by kernel_rfl
  have h1 := norms_at (qk2.take 55) (.sl :: qk2.drop 56) 0 (e1 ▸ hn)
  have h2 := norms_at (qk2.take 127) (.sl :: qk2.drop 128) 0 (e2 ▸ hn)
  have h3 := norms_at (qk2.take 135) (.sl :: qk2.drop 136) 0 (e3 ▸ hn)
  rw [show 0 + ckLen (qk2.take 55) = 55 by kernel_rfl] at h1
  rw [show 0 + ckLen (qk2.take 127) = 130 by kernel_rfl] at h2
  rw [show 0 + ckLen (qk2.take 135) = 141 by kernel_rfl] at h3
  exact ⟨⟨h1.1.2.1, h1.1.2.2.1, h1.1.2.2.2⟩, ⟨h2.1.2.1, h2.1.2.2.1, h2.1.2.2.2⟩, ⟨h3.1.2.1, h3.1.2.2.1, h3.1.2.2.2⟩⟩
section
variable {R1 R2 R3 : Hl} {ρ : Env} {r : Rq}
theorem rq_b (hx : IsRq R1 R2 R3 (qrow ρ) r) : RdW R2 (.slice (slP (ρ.i 130) (ρ.i 131)) (ρ.i 132).toNat (ρ.i 133).toNat) r.b := by
  have := hx.body; rwa [qrow_b] at this
theorem rq_h (hx : IsRq R1 R2 R3 (qrow ρ) r) : IsHd R1 (hrow ρ 2) r.h := by
  have := hx.hd; rwa [qrow_hd] at this
theorem rq_w (hx : IsRq R1 R2 R3 (qrow ρ) r) : RdRows R3 (.slice (slP (ρ.i 141) (ρ.i 142)) (ρ.i 143).toNat (ρ.i 144).toNat) tkd (r.w.map bys) := by
  have := hx.tok; rwa [qrow_w] at this
theorem rq_form (hx : IsRq R1 R2 R3 (qrow ρ) r) : r.Form ↔
  (ρ.i 1 = 1 ∧ (zer ρ.i 134 6 ∧ ¬ (ρ.b 140 = true) ∧ (ρ.i 143).toNat = 0 ∧ ρ.i 145 = 0) ∧ (ρ.i 146 = 0 ∧ ρ.i 147 = 0) ∧ r.h.Form ∧ ((ρ.i 132).toNat : Int) = ρ.i 97) ∨
  (ρ.i 1 = 2 ∧ ((ρ.i 132).toNat = 0 ∧ r.h = hz) ∧ (ρ.i 146 = 0 ∧ ρ.i 147 = 0) ∧ (ρ.i 134 ≤ 1048576 ∧ ρ.i 135 ≤ 1048576 ∧ ρ.i 136 ≤ 1048576 ∧ ρ.i 137 ≤ 1048576 ∧ ρ.i 138 ≤ 1048576 ∧ ρ.i 139 ≤ 1048576) ∧ (ρ.i 143).toNat ≤ 8 ∧ SortedT r.w ∧ (ρ.b 140 = true → (ρ.i 143).toNat = 0) ∧ 1 ≤ ρ.i 145 ∧ ρ.i 145 ≤ 8) ∨
  (ρ.i 1 = 3 ∧ ((ρ.i 132).toNat = 0 ∧ r.h = hz) ∧ (zer ρ.i 134 6 ∧ ¬ (ρ.b 140 = true) ∧ (ρ.i 143).toNat = 0 ∧ ρ.i 145 = 0) ∧ 1 ≤ ρ.i 146 ∧ ρ.i 146 ≤ 6 ∧ 1 ≤ ρ.i 147 ∧ ρ.i 147 ≤ 1048576) := by
  obtain ⟨c0, c1, c2, c3, c4, c5⟩ := qrow_c ρ
  obtain ⟨n0, n1, n2, n3, n4, n5⟩ := qrow_n ρ
  have hz : zer (cI r.c) 128 6 ↔ zer ρ.i 134 6 := by
    rw [zer_iff, zer_iff]
    have e : ∀ j, j < 6 → cI r.c (128 + j) = ρ.i (134 + j) := by
      intro j hj
      rw [hx.I (by omega)]
      have : j = 0 ∨ j = 1 ∨ j = 2 ∨ j = 3 ∨ j = 4 ∨ j = 5 := by omega
      rcases this with rfl | rfl | rfl | rfl | rfl | rfl
      · exact c0
      · exact c1
      · exact c2
      · exact c3
      · exact c4
      · exact c5
    exact ⟨fun h j hj => by rw [← e j hj]; exact h j hj, fun h j hj => by rw [e j hj]; exact h j hj⟩
  have lb : (ρ.i 132).toNat = r.b.length := by
    obtain ⟨x, y, c, e, _⟩ := rq_b hx
    simp only [Value.slice.injEq] at e
    exact e.2.1
  have lw : (ρ.i 143).toNat = r.w.length := rd_len (rq_w hx)
  have eb : r.b = [] ↔ (ρ.i 132).toNat = 0 := by rw [lb, List.length_eq_zero_iff]
  have ew : r.w = [] ↔ (ρ.i 143).toNat = 0 := by rw [lw, List.length_eq_zero_iff]
  unfold Rq.Form Rq.NoPull Rq.NoFetch Rq.NoPiece Rq.Small
  rw [hz, eb, ew, ← lb, ← lw]
  rw [hx.I (k := 1) (by decide), hx.I (k := 94) (by decide), hx.I (k := 136) (by decide), hx.I (k := 137) (by decide), hx.I (k := 138) (by decide), hx.B (k := 134) (by decide), hx.I (k := 128) (by decide), hx.I (k := 129) (by decide), hx.I (k := 130) (by decide), hx.I (k := 131) (by decide), hx.I (k := 132) (by decide), hx.I (k := 133) (by decide), n0, n1, n2, n3, n4, n5, c0, c1, c2, c3, c4, c5]
  have : (ρ.b 140 = false) ↔ ¬ (ρ.b 140 = true) := by simp
  rw [this]
end
theorem same_post {r1 r2 : List Value} {R1 R2 : Hl} {h1 h2 : Hd} {v : Value} {Hs K : List Hl} {F : Hl} (x : IsHd R1 r1 h1) (y : IsHd R2 r2 h2) (hp : sameS.post [.agg r1.toArray, .agg r2.toArray] Hs [R1, R2] v K F) : (v = .bool true ↔ h1 = h2) := by
  obtain ⟨r1', r2', R1', R2', h1', h2', e1, e2, x', y', hv⟩ := hp
  simp only [List.cons.injEq, Value.agg.injEq, and_true] at e1 e2
  obtain ⟨e3, e4⟩ := e1
  obtain ⟨rfl, rfl⟩ := e2
  obtain rfl := List.toArray_inj e3
  obtain rfl := List.toArray_inj e4
  rw [x.uniq x', y.uniq y', hv]
  simp
theorem ag0 : aqΓ[0]? = some (formS 25) := rfl
theorem ag1 : aqΓ[1]? = some (sortS 46) := rfl
theorem ag3 : aqΓ[3]? = some sameS := rfl
theorem agr3 : sameS.res = [.one .bool] := rfl
theorem bvT {q : Env} {n : Nat} {P : Prop} (h : Value.bool (bev q (.bvar n)) = .bool true ↔ P) : (q.b n = true) = P := by
  rw [← propext h, bev_bvar]; simp
open Classical in
theorem sort_res {f : FuncId} {u : Value} {R : Hl} {T : List (List Int)} {Hs K : List Hl} {F : Hl} {q : Env} {n : Nat} (h : RdRows R u tkd (T.map bys)) (hp : (sortS f).post [u] Hs [R] (.bool (bev q (.bvar n))) K F) : (q.b n = true) = SortedT T := by
  have := sort_post h hp
  exact bvT (by rw [this]; simp)
open Classical in
theorem formd_res {f : FuncId} {row : List Value} {R : Hl} {h : Hd} {Hs K : List Hl} {F : Hl} {q : Env} {n : Nat} (hx : IsHd R row h) (hp : (formS f).post [.agg row.toArray] Hs [R] (.bool (bev q (.bvar n))) K F) : (q.b n = true) = h.Form := by
  have := form_res hx hp
  exact bvT (by rw [this]; simp)
theorem impI {A B : Prop} (h : A → B) : A → B := h
theorem eFormQ_ok : (formQ 9).OK Try.prog := by
  refine Spec.of_fn (Γ := aqΓ) aqΓ_ok ?_
  rintro xs Hs Rs hl1 hl2 ⟨row, R1, R2, R3, r, rfl, rfl, hx⟩
  have e0 : Hs = [] := List.length_eq_zero_iff.1 hl1
  subst e0
  obtain ⟨ρ, rfl, hn, hh⟩ := row_env [(150, R1), (151, R2), (152, R3)] hx.ok
  have hx : IsRq R1 R2 R3 (qrow ρ) r := hx
  have w150 : ρ.h 150 = R1 := hh 150
  have w151 : ρ.h 151 = R2 := hh 151
  have w152 : ρ.h 152 = R3 := hh 152
  refine ⟨qFormW, ρ, fun _ _ => True, fun _ _ => 0, by kernel_rfl, ⟨?_, ?_, ?_, ?_⟩, (fun _ h => nomatch h), ?_⟩
  · intro r hr ho; simp [qFormW, rqMem] at hr; rcases hr with rfl | rfl | rfl <;> cases ho
  · intro r hr ho; simp [qFormW, rqMem] at hr
    rcases hr with rfl | rfl | rfl
    · exact ⟨R1, by simp, by show (ρ.h 150).le R1; rw [w150]; exact Hl.le_refl _⟩
    · exact ⟨R2, by simp, by show (ρ.h 151).le R2; rw [w151]; exact Hl.le_refl _⟩
    · exact ⟨R3, by simp, by show (ρ.h 152).le R3; rw [w152]; exact Hl.le_refl _⟩
  · simp [qFormW, rqMem, Res.own]
  · intro r hr; simp [qFormW, rqMem] at hr; rcases hr with rfl | rfl | rfl <;> trivial
  · show Nd.holds _ _ _ qFormNd
    obtain ⟨n1, n2, n3⟩ := qnorms hn
    have out : ∀ {q : Env} {e : E} {mem : Mem}, (bev q e = true ↔ r.Form) → postOf (formQ 9) [.agg ((ckCVs 0 qk2).map (CV.ev ρ)).toArray] [] [R1, R2, R3] q mem (.sv (.one (.bool e))) := by
      intro q e mem he _
      exact ⟨[], [], rfl, rfl, ⟨⟨fun _ => 0, fun _ => bev q e, fun _ => .empty, fun _ => .tuple #[], fun _ => Hl.none⟩, rfl, trivial, trivial⟩, _, R1, R2, R3, r, rfl, rfl, hx, boolV he⟩
    have hH := rq_h hx
    have hB := rq_b hx
    have hW := rq_w hx
    have E := rq_form hx
    obtain ⟨z1, hz1⟩ := as_int (zer ρ.i 134 6)
    obtain ⟨z2, hz2⟩ := as_int (ρ.b 140 = true)
    obtain ⟨z3, hz3⟩ := as_int r.h.Form
    obtain ⟨z4, hz4⟩ := as_int (SortedT r.w)
    obtain ⟨z5, hz5⟩ := as_int (r.h = hz)
    rw [hz1, hz2, hz3, hz4, hz5] at E
    rw [E] at out
    clear E
    generalize postOf (formQ 9) [.agg ((ckCVs 0 qk2).map (CV.ev ρ)).toArray] [] [R1, R2, R3] = L at out
    have ff : ∀ {q : Env} {mem : Mem}, ¬ _ → L q mem (.sv (.one (.bool .ff))) := fun {q mem} hf => out (q := q) (e := .ff) (mem := mem) ⟨fun e => (by rw [bev_ff] at e; cases e), fun e => absurd e hf⟩
    unfold qFormNd
    simp only [Nd.holds, X.pre, X.rel, X.n, Src.ok, Src.len, Src.vals, true_and, and_true, if_true, Nat.mul_one, Nat.add_zero, Nat.reduceAdd, List.length_cons, List.length_nil, bT_tt, bT_ff, bT_bvar, bT_not, bT_and, bT_or, bT_ite, bT_lt, bT_le, bT_eq, bT_beq, bT_seq, bT_hB, bT_his, bT_hby, bT_hism, bT_hks, iev_lit, iev_var, iev_add, iev_sub, iev_mul, iev_wrap, iev_ite, iev_hI, iev_hP, iev_hmlen, sev_ite, sev_slit, sev_sof, sev_svar, TV.ev, SV.ev, CV.ev, List.map_cons, List.map_nil, Res.hl, cpTV, Cp.sv, Ck.cv, cpSVs, Cp.len, Ck.len, newHs_zero, newHs_one, roots_ne, ag0, ag1, ag3, hr0, fr0, agr3, sc2, zc134]
    intro q1 g1 _
    have G1 : Agree 153 ρ q1 := g1
    simp only [G1.i, G1.b, G1.h, ag_zer G1, ag_row G1, ckLen_hk, hzC_ev, w150, w151, w152, Nat.reduceAdd, Nat.reduceLeDiff, Nat.reduceLT, hz1, hz2]
    (repeat' (first | refine And.intro ?_ ?_ | refine impI (fun _ => ?_)))
    all_goals (first | omega | exact ff (by omega) | (refine out ?_; simp only [bT_eq, bT_le, bT_tt, iev_var, iev_lit, G1.i, Nat.reduceLT]; omega) | skip)
    · intro q2 g2 _
      have G2 : Agree 153 ρ q2 := G1.trans (g2.mono (by omega))
      simp only [G2.i, G2.b, G2.h, ag_zer G2, ag_row G2, ckLen_hk, hzC_ev, w150, w151, w152, Nat.reduceAdd, Nat.reduceLeDiff, Nat.reduceLT, hz1, hz2]
      (repeat' (first | refine And.intro ?_ ?_ | refine impI (fun _ => ?_)))
      all_goals (first | omega | exact ff (by omega) | (refine out ?_; simp only [bT_eq, bT_le, bT_tt, iev_var, iev_lit, G2.i, Nat.reduceLT]; omega) | skip)
      intro q3 g3 _
      have G3 : Agree 153 ρ q3 := G2.trans (g3.mono (by omega))
      simp only [G3.i, G3.b, G3.h, ag_zer G3, ag_row G3, ckLen_hk, hzC_ev, w150, w151, w152, Nat.reduceAdd, Nat.reduceLeDiff, Nat.reduceLT, hz1, hz2]
      (repeat' (first | refine And.intro ?_ ?_ | refine impI (fun _ => ?_)))
      all_goals (first | omega | exact ff (by omega) | (refine out ?_; simp only [bT_eq, bT_le, bT_tt, iev_var, iev_lit, G3.i, Nat.reduceLT]; omega) | skip)
      · exact ⟨_, R1, r.h, rfl, rfl, hH⟩
      intro q4 g4 ⟨F, hp, _⟩
      have G4 : Agree 153 ρ q4 := G3.trans (g4.mono (by omega))
      rw [formd_res hH hp, hz3]
      (try simp only [G4.i, G4.b, G4.h, ag_zer G4, ag_row G4, ckLen_hk, hzC_ev, w150, w151, w152, Nat.reduceAdd, Nat.reduceLeDiff, Nat.reduceLT, hz1, hz2])
      (repeat' (first | refine And.intro ?_ ?_ | refine impI (fun _ => ?_)))
      all_goals (first | omega | exact ff (by omega) | (refine out ?_; simp only [bT_eq, bT_le, bT_tt, iev_var, iev_lit, G4.i, Nat.reduceLT]; omega) | skip)
    · intro q2 g2 _
      have G2 : Agree 153 ρ q2 := G1.trans (g2.mono (by omega))
      simp only [G2.i, G2.b, G2.h, ag_zer G2, ag_row G2, ckLen_hk, hzC_ev, w150, w151, w152, Nat.reduceAdd, Nat.reduceLeDiff, Nat.reduceLT, hz1, hz2]
      (repeat' (first | refine And.intro ?_ ?_ | refine impI (fun _ => ?_)))
      all_goals (first | omega | exact ff (by omega) | (refine out ?_; simp only [bT_eq, bT_le, bT_tt, iev_var, iev_lit, G2.i, Nat.reduceLT]; omega) | skip)
      · exact ⟨_, _, R1, Hl.none, r.h, hz, rfl, rfl, hH, hz_is _⟩
      intro q3 g3 ⟨F, hp, _⟩
      have G3 : Agree 153 ρ q3 := G2.trans (g3.mono (by omega))
      rw [bvT (same_post hH (hz_is _) hp), hz5]
      (try simp only [G3.i, G3.b, G3.h, ag_zer G3, ag_row G3, ckLen_hk, hzC_ev, w150, w151, w152, Nat.reduceAdd, Nat.reduceLeDiff, Nat.reduceLT, hz1, hz2])
      (repeat' (first | refine And.intro ?_ ?_ | refine impI (fun _ => ?_)))
      all_goals (first | omega | exact ff (by omega) | (refine out ?_; simp only [bT_eq, bT_le, bT_tt, iev_var, iev_lit, G3.i, Nat.reduceLT]; omega) | skip)
      intro q4 g4 _
      have G4 : Agree 153 ρ q4 := G3.trans (g4.mono (by omega))
      simp only [G4.i, G4.b, G4.h, ag_zer G4, ag_row G4, ckLen_hk, hzC_ev, w150, w151, w152, Nat.reduceAdd, Nat.reduceLeDiff, Nat.reduceLT, hz1, hz2]
      (repeat' (first | refine And.intro ?_ ?_ | refine impI (fun _ => ?_)))
      all_goals (first | omega | exact ff (by omega) | (refine out ?_; simp only [bT_eq, bT_le, bT_tt, iev_var, iev_lit, G4.i, Nat.reduceLT]; omega) | skip)
      intro q5 g5 _
      have G5 : Agree 153 ρ q5 := G4.trans (g5.mono (by omega))
      simp only [G5.i, G5.b, G5.h, ag_zer G5, ag_row G5, ckLen_hk, hzC_ev, w150, w151, w152, Nat.reduceAdd, Nat.reduceLeDiff, Nat.reduceLT, hz1, hz2]
      (repeat' (first | refine And.intro ?_ ?_ | refine impI (fun _ => ?_)))
      all_goals (first | omega | exact ff (by omega) | (refine out ?_; simp only [bT_eq, bT_le, bT_tt, iev_var, iev_lit, G5.i, Nat.reduceLT]; omega) | skip)
      intro q6 g6 _
      have G6 : Agree 153 ρ q6 := G5.trans (g6.mono (by omega))
      simp only [G6.i, G6.b, G6.h, ag_zer G6, ag_row G6, ckLen_hk, hzC_ev, w150, w151, w152, Nat.reduceAdd, Nat.reduceLeDiff, Nat.reduceLT, hz1, hz2]
      (repeat' (first | refine And.intro ?_ ?_ | refine impI (fun _ => ?_)))
      all_goals (first | omega | exact ff (by omega) | (refine out ?_; simp only [bT_eq, bT_le, bT_tt, iev_var, iev_lit, G6.i, Nat.reduceLT]; omega) | skip)
      · exact ⟨_, R3, r.w, rfl, rfl, hW, hx.toks⟩
      intro q7 g7 ⟨F, hp, _⟩
      have G7 : Agree 153 ρ q7 := G6.trans (g7.mono (by omega))
      rw [sort_res hW hp, hz4]
      (try simp only [G7.i, G7.b, G7.h, ag_zer G7, ag_row G7, ckLen_hk, hzC_ev, w150, w151, w152, Nat.reduceAdd, Nat.reduceLeDiff, Nat.reduceLT, hz1, hz2])
      (repeat' (first | refine And.intro ?_ ?_ | refine impI (fun _ => ?_)))
      all_goals (first | omega | exact ff (by omega) | (refine out ?_; simp only [bT_eq, bT_le, bT_tt, iev_var, iev_lit, G7.i, Nat.reduceLT]; omega) | skip)
    · intro q2 g2 _
      have G2 : Agree 153 ρ q2 := G1.trans (g2.mono (by omega))
      simp only [G2.i, G2.b, G2.h, ag_zer G2, ag_row G2, ckLen_hk, hzC_ev, w150, w151, w152, Nat.reduceAdd, Nat.reduceLeDiff, Nat.reduceLT, hz1, hz2]
      (repeat' (first | refine And.intro ?_ ?_ | refine impI (fun _ => ?_)))
      all_goals (first | omega | exact ff (by omega) | (refine out ?_; simp only [bT_eq, bT_le, bT_tt, iev_var, iev_lit, G2.i, Nat.reduceLT]; omega) | skip)
      · exact ⟨_, _, R1, Hl.none, r.h, hz, rfl, rfl, hH, hz_is _⟩
      intro q3 g3 ⟨F, hp, _⟩
      have G3 : Agree 153 ρ q3 := G2.trans (g3.mono (by omega))
      rw [bvT (same_post hH (hz_is _) hp), hz5]
      (try simp only [G3.i, G3.b, G3.h, ag_zer G3, ag_row G3, ckLen_hk, hzC_ev, w150, w151, w152, Nat.reduceAdd, Nat.reduceLeDiff, Nat.reduceLT, hz1, hz2])
      (repeat' (first | refine And.intro ?_ ?_ | refine impI (fun _ => ?_)))
      all_goals (first | omega | exact ff (by omega) | (refine out ?_; simp only [bT_eq, bT_le, bT_tt, iev_var, iev_lit, G3.i, Nat.reduceLT]; omega) | skip)
      intro q4 g4 _
      have G4 : Agree 153 ρ q4 := G3.trans (g4.mono (by omega))
      simp only [G4.i, G4.b, G4.h, ag_zer G4, ag_row G4, ckLen_hk, hzC_ev, w150, w151, w152, Nat.reduceAdd, Nat.reduceLeDiff, Nat.reduceLT, hz1, hz2]
      (repeat' (first | refine And.intro ?_ ?_ | refine impI (fun _ => ?_)))
      all_goals (first | omega | exact ff (by omega) | (refine out ?_; simp only [bT_eq, bT_le, bT_tt, iev_var, iev_lit, G4.i, Nat.reduceLT]; omega) | skip)
end Go.Proofs.Ytkdllpialpfopaa
