/- Layer 22: ask.Bytes as a contract. Condition: bytes below 256. -/
import Derived.Test.YtkdllpialpfopaaAqG
set_option linter.unusedSimpArgs false
set_option linter.unusedVariables false
set_option linter.constructorNameAsVariable false
namespace Go.Proofs.Ytkdllpialpfopaa
open Go Go.Sx Go.Pk

theorem ckLen_qk : ckLen qk2 = 148 := by kernel_rfl
theorem form_size {R1 R2 R3 : Hl} {ρ : Env} {r : Rq} (hx : IsRq R1 R2 R3 (qrow ρ) r) (hf : r.Form) (h1 : ρ.i 1 = 1) : r.b.length ≤ 2064 := by
  have e := rq_form hx
  have lb : (ρ.i 132).toNat = r.b.length := by
    obtain ⟨x, y, c, e, _⟩ := rq_b hx
    simp only [Value.slice.injEq] at e
    exact e.2.1
  rcases e.1 hf with h | h | h
  · have h2 := (isPad_in h.2.2.2.1.2.2.2.1).2
    rw [(rq_h hx).I (k := 92) (by decide), show cI (hrow ρ 2) 92 = ρ.i 97 by kernel_rfl] at h2
    omega
  · omega
  · omega
theorem end_res {p v n : Value} {R F : Hl} {bs : List Int} {lg : Bool} {K : List Hl} (h : OutAt R p bs lg) (hp : oEndS.post [p] [] [R] (.tuple #[v, n]) K F) : OwB F 5 v (endR bs lg).1 ∧ n = .int .i64 (endR bs lg).2 := by
  obtain ⟨p', R', bs', lg', u, e1, e2, hO, hv, hw⟩ := hp
  simp only [List.cons.injEq, and_true] at e1 e2
  subst e1 e2
  obtain ⟨e1, e2⟩ := h.uniq hO
  subst e1 e2
  simp only [Value.tuple.injEq, Array.mk.injEq, List.cons.injEq, and_true] at hv
  rw [hv.1]; exact ⟨hw, hv.2⟩
set_option maxHeartbeats 1000000 in
theorem qBytesS_ok : qBytesS.OK Try.prog := by
  refine Spec.of_fn (Γ := abΓ) abΓ_ok ?_
  rintro xs Hs Rs hl1 hl2 ⟨row, R1, R2, R3, r, rfl, rfl, hx⟩
  have e0 : Hs = [] := List.length_eq_zero_iff.1 hl1
  subst e0
  obtain ⟨ρ, rfl, hn, hh⟩ := row_env [(150, R1), (151, R2), (152, R3)] hx.ok
  have hx : IsRq R1 R2 R3 (qrow ρ) r := hx
  have w150 : ρ.h 150 = R1 := hh 150
  have w151 : ρ.h 151 = R2 := hh 151
  have w152 : ρ.h 152 = R3 := hh 152
  refine ⟨qBytW, ρ, fun j q => if j = 0 then ∃ i : Nat, q.i 200 = i ∧ i ≤ r.w.length ∧ OP (q.h 201) (q.i 155) (numB (ρ.i 0).toNat ++ numB (u64N (ρ.i 1)) ++ vecB [ρ.i 134, ρ.i 135, ρ.i 136, ρ.i 137, ρ.i 138, ρ.i 139] ++ flagB (ρ.b 140) ++ numB r.w.length ++ (r.w.take i).flatten) 500 else OP (q.h 300) (q.i 155) (qB r) 6000, fun _ q => (r.w.length - q.i 200).toNat, by kernel_rfl, ⟨?_, ?_, ?_, ?_⟩, (fun _ h => nomatch h), ?_⟩
  · intro r hr ho; simp [qBytW, rqMem] at hr; rcases hr with rfl | rfl | rfl <;> cases ho
  · intro r hr ho; simp [qBytW, rqMem] at hr
    rcases hr with rfl | rfl | rfl
    · exact ⟨R1, by simp, by show (ρ.h 150).le R1; rw [w150]; exact Hl.le_refl _⟩
    · exact ⟨R2, by simp, by show (ρ.h 151).le R2; rw [w151]; exact Hl.le_refl _⟩
    · exact ⟨R3, by simp, by show (ρ.h 152).le R3; rw [w152]; exact Hl.le_refl _⟩
  · simp [qBytW, rqMem, Res.own]
  · intro r hr; simp [qBytW, rqMem] at hr; rcases hr with rfl | rfl | rfl <;> trivial
  · show Nd.holds _ _ _ qBytNd
    obtain ⟨n1, n2, n3⟩ := qnorms hn
    obtain ⟨u0, u147, uv⟩ := rq_rng hx
    have hW := rq_w hx
    have hP := rq_pc hx
    have lw : (ρ.i 143).toNat = r.w.length := rd_len hW
    have EF := rq_form hx
    have EB := rq_B hx
    unfold qBytNd
    simp only [Nd.holds, X.pre, X.rel, X.n, Src.ok, Src.len, Src.vals, true_and, and_true, if_true, Nat.mul_one, Nat.add_zero, Nat.reduceAdd, List.length_cons, List.length_nil, bT_tt, bT_ff, bT_bvar, bT_not, bT_and, bT_or, bT_ite, bT_lt, bT_le, bT_eq, bT_beq, bT_seq, bT_hB, bT_his, bT_hby, bT_hism, bT_hks, iev_lit, iev_var, iev_add, iev_sub, iev_mul, iev_wrap, iev_ite, iev_hI, iev_hP, iev_hmlen, sev_ite, sev_slit, sev_sof, sev_svar, TV.ev, SV.ev, CV.ev, List.map_cons, List.map_nil, Res.hl, cpTV, Cp.sv, Ck.cv, cpSVs, Cp.len, Ck.len, newHs_zero, newHs_one, roots_ne, abg0, abg1, abg2, abg3, abg4, abg5, abg6, abr0, apr0, abr2, abr3, abr4, abr5, abr6, sc2]
    intro q1 g1 _
    have G1 : Agree 153 ρ q1 := g1
    rw [show (ckCVs 0 qk2).map (CV.ev q1) = qrow ρ from ag_row G1 (by rw [ckLen_qk]; omega), G1.h 150 (by omega), G1.h 151 (by omega), G1.h 152 (by omega), w150, w151, w152]
    refine ⟨⟨_, R1, R2, R3, r, rfl, rfl, hx⟩, fun q2 g2 ⟨F, hp, _⟩ => ?_⟩
    have G2 : Agree 153 ρ q2 := G1.trans (g2.mono (by omega))
    rw [formQ_res hx hp]
    refine ⟨fun hf => ?_, fun hf q3 g3 p3 => ?_⟩
    · intro _
      have e : qRes r = ([], 1) := by unfold qRes; rw [if_neg hf]
      refine ⟨[], [], rfl, rfl, ⟨⟨fun k => if k = 0 then -1 else if k = 4 then 1 else 0, fun _ => false, fun _ => .empty, fun _ => .tuple #[], fun _ => Hl.none⟩, rfl, ⟨Int.le_refl _, Int.le_refl _, Int.le_refl _, Int.le_refl _⟩, trivial, trivial⟩, _, R1, R2, R3, r, .slice none 0 0, rfl, rfl, hx, ?_, ?_⟩
      · rw [e]; rfl
      · rw [e]; exact ownB_nil _ _
    have G3 : Agree 153 ρ q3 := G2.trans (g3.mono (by omega))
    have P3 : OP (Hl.one (q3.i 155).toNat (Obj.cells #[Value.slice (slP (-1) 0) (Int.toNat 0) (Int.toNat 0), Value.bool (bev q3 E.ff)] 53 (0, 0))) (q3.i 155) [] 0 := OP.new p3
    rw [G3.i 0 (by omega)]
    refine numP P3 (by omega) (by omega) u0 fun q4 g4 P4 => ?_
    have G4 : Agree 153 ρ q4 := G3.trans (g4.mono (by omega))
    rw [G4.i 1 (by omega)]
    refine numP P4 (by omega) (by omega) (u64_in _) fun q5 g5 P5 => ?_
    have G5 : Agree 153 ρ q5 := G4.trans (g5.mono (by omega))
    have P5 : OP (q5.h 158) (q5.i 155) (numB (ρ.i 0).toNat ++ numB (u64N (ρ.i 1))) 20 := P5
    rw [G5.i 1 (by omega)]
    have hk : ρ.i 1 = 1 ∨ ρ.i 1 = 2 ∨ ρ.i 1 = 3 := by
      rcases EF.1 hf with h | h | h
      · exact Or.inl h.1
      · exact Or.inr (Or.inl h.1)
      · exact Or.inr (Or.inr h.1)
    have hw8 : ρ.i 1 = 2 → r.w.length ≤ 8 := fun h2 => by
      rcases EF.1 hf with h | h | h
      · have := h.1; omega
      · have := h.2.2.2.2.1; omega
      · have := h.1; omega
    clear EF
    have fin : ∀ {q : Env} {H : Hl} {bs : List Int} {m : Nat}, bs = qB r → m ≤ 6000 → OP H (q.i 155) bs m → OP H (q.i 155) (qB r) 6000 := fun e hm h => by rw [← e]; exact h.upto hm
    refine ⟨⟨fun h1 => ?_, fun h1 => ⟨fun h2 => ?_, fun h2 => ⟨fun h3 => ?_, fun h3 => by omega⟩⟩⟩, fun q6 g6 hi => ?_⟩
    · rw [show (ckCVs 2 (hk2 ++ [Ck.sl])).map (CV.ev q5) = (ckCVs 2 (hk2 ++ [Ck.sl])).map (CV.ev ρ) from ag_row G5 (by rw [ckLen_pk]; omega), G5.h 150 (by omega), w150, G5.h 151 (by omega), w151]
      refine pcP P5 (by omega) (by omega) hP (Nat.le_trans (form_size hx hf h1) (by omega)) fun q6 g6 P6 => ?_
      show OP (q6.h 160) (q6.i 155) (qB r) 6000
      refine fin ?_ (by omega) P6
      rw [EB, if_pos h1]
    · rw [show (ckCVs 134 (List.replicate 6 (Ck.int .u64))).map (CV.ev q5) = us [ρ.i 134, ρ.i 135, ρ.i 136, ρ.i 137, ρ.i 138, ρ.i 139] from (ag_row G5 (Nat.le_of_ble_eq_true (by kernel_rfl))).trans rfl]
      refine vecP P5 (by omega) (by omega) rfl uv fun q6 g6 P6 => ?_
      have G6 : Agree 153 ρ q6 := G5.trans (g6.mono (by omega))
      rw [bev_bvar, G6.b 140 (by omega)]
      refine flagP P6 (by omega) (by omega) fun q7 g7 P7 => ?_
      have G7 : Agree 153 ρ q7 := G6.trans (g7.mono (by omega))
      rw [G7.i 143 (by omega)]
      have hw8 := hw8 h2
      have ew : IntKind.u64.wrap (ρ.i 143) = (r.w.length : Int) := by rw [wu64 (by omega) (by omega)]; omega
      rw [ew]
      refine ⟨by omega, numP P7 (by omega) (by omega) ⟨by omega, by omega⟩ fun q8 g8 P8 => ?_⟩
      have G8 : Agree 153 ρ q8 := G7.trans (g8.mono (by omega))
      have P8 : OP (q8.h 164) (q8.i 155) (numB (ρ.i 0).toNat ++ numB (u64N (ρ.i 1)) ++ vecB [ρ.i 134, ρ.i 135, ρ.i 136, ρ.i 137, ρ.i 138, ρ.i 139] ++ flagB (ρ.b 140) ++ numB r.w.length) 91 := P8
      refine ⟨⟨0, rfl, Nat.zero_le _, ?_⟩, fun q9 g9 ⟨i, ei, hi, hO⟩ => ?_⟩
      · show OP (q8.h 164) (q8.i 155) _ 500
        rw [List.take_zero, List.flatten_nil, List.append_nil]
        exact P8.upto (by omega)
      have G9 : Agree 153 ρ q9 := G8.trans (g9.mono (by omega))
      have ht16 : ∀ t ∈ r.w, t.length = 16 := fun t ht => (hx.toks.2 t ht).1
      have lF : ∀ i, i ≤ r.w.length → ((r.w.take i).flatten).length ≤ 128 := fun i hi => by
        rw [flat16 (fun t ht => ht16 t (List.mem_of_mem_take ht)), List.length_take]; omega
      rw [G9.i 143 (by omega), ei]
      refine ⟨fun hlt => ?_, fun hge => ?_⟩
      · have hiT : i < r.w.length := by omega
        obtain ⟨x, y, c, eS, hy, hrows⟩ := id hW
        rcases hrows with hnn | ⟨hx0, hc⟩
        · rw [List.map_eq_nil_iff] at hnn
          rw [hnn] at hiT; cases hiT
        simp only [Value.slice.injEq] at eS
        obtain ⟨hx141, hy142⟩ := slP_eq hx0 hy n3.1 eS.1
        have ht := List.getElem?_eq_getElem hiT
        have m1 := hx.toks.2 _ (List.mem_of_getElem? ht)
        obtain ⟨b1, _⟩ := tok_at (ρ := q9) (h := 152) (X := .var 141) (Y := (E.var 142).add ((E.var 200).mul (E.lit 16))) hx0 hy hc ht m1.1 (by rw [G9.h 152 (by omega), w152]) (by rw [iev_var, G9.i 141 (by omega), hx141]) (by
          simp only [iev_add, iev_mul, iev_var, iev_lit]
          rw [G9.i 142 (by omega), hy142, ei])
        rw [G9.i 141 (by omega), G9.i 142 (by omega), G9.h 152 (by omega), w152, hx141, hy142]
        refine ⟨hx0, hy, by omega, b1, fun q10 g10 p210 => ?_⟩
        have G10 : Agree 153 ρ q10 := G9.trans (g10.mono (by omega))
        have r1' : (romCells 152 (E.var 141) ((E.var 142).add ((E.var 200).mul (E.lit 16))) 0 (List.replicate 16 (Kd.int .u8))).map (CV.ev q10) = bys r.w[i] := by
          have := tok_at (ρ := q10) (h := 152) (X := .var 141) (Y := (E.var 142).add ((E.var 200).mul (E.lit 16))) hx0 hy hc ht m1.1 (by rw [G10.h 152 (by omega), w152]) (by rw [iev_var, G10.i 141 (by omega), hx141]) (by
            simp only [iev_add, iev_mul, iev_var, iev_lit]
            rw [G10.i 142 (by omega), g10.i 200 (by omega), hy142, ei])
          exact this.2
        have rdT := rdB_blk (q := q10) (T := 26) (l := r.w[i]) (a := 210) (o := 0) (n := 16) (c := 16) p210 (cs := romCells 152 (E.var 141) ((E.var 142).add ((E.var 200).mul (E.lit 16))) 0 (List.replicate 16 (Kd.int .u8))) (by
          intro j z hz
          rw [r1', Nat.zero_add]; unfold bys; rw [List.getElem?_map, hz]; rfl) m1.1.symm
        have hO := hO.to g10 (by omega)
        rw [← g10.h 201 (by omega)] at hO
        refine rawP hO (by omega) (by omega) rdT.w (Nat.le_of_eq m1.1) (by omega) fun q11 g11 P11 => ?_
        have ew : IntKind.i64.wrap (q11.i 200 + 1) = ((i + 1 : Nat) : Int) := by rw [g11.i 200 (by omega), g10.i 200 (by omega), ei, IntWalk.i64_in _ (by omega)]; omega
        refine ⟨⟨i + 1, ew, by omega, ?_⟩, ?_⟩
        · show OP (q11.h 211) (q11.i 155) _ 500
          have e : (r.w.take (i + 1)).flatten = (r.w.take i).flatten ++ r.w[i] := by
            rw [List.take_add_one, ht, Option.toList_some, List.flatten_append, List.flatten_cons, List.flatten_nil, List.append_nil]
          have l1 := lF (i + 1) (by omega)
          rw [e] at l1 ⊢
          have hl2 := P8.len
          refine ⟨by rw [← List.append_assoc]; exact P11.out, ?_⟩
          rw [List.length_append]; omega
        · show ((r.w.length : Int) - IntKind.i64.wrap (q11.i 200 + 1)).toNat < _
          rw [ew]; omega
      · have hi' : i = r.w.length := by omega
        rw [hi', List.take_length] at hO
        rw [G9.i 145 (by omega)]
        refine numP hO (by omega) (by omega) (u64_in _) fun q10 g10 P10 => ?_
        show OP (q10.h 210) (q10.i 155) (qB r) 6000
        refine fin ?_ (by omega) P10
        rw [EB, if_neg h1, if_pos h2]
        simp only [List.append_assoc]; rfl
    · rw [G5.i 146 (by omega)]
      refine numP P5 (by omega) (by omega) (u64_in _) fun q6 g6 P6 => ?_
      have G6 : Agree 153 ρ q6 := G5.trans (g6.mono (by omega))
      rw [G6.i 147 (by omega)]
      refine numP P6 (by omega) (by omega) u147 fun q7 g7 P7 => ?_
      show OP (q7.h 162) (q7.i 155) (qB r) 6000
      refine fin ?_ (by omega) P7
      rw [EB, if_neg h1, if_neg h2, if_pos h3]
      simp only [List.append_assoc]; rfl
    · have hi : OP (q6.h 300) (q6.i 155) (qB r) 6000 := hi
      refine ⟨⟨_, _, qB r, false, rfl, rfl, hi.out, Nat.le_trans hi.len (by omega)⟩, fun q7 g7 ⟨F, hp, hF, hnm⟩ _ => ?_⟩
      obtain ⟨hO, he⟩ := end_res hi.out hp
      have hl := hi.len
      have eE : endR (qB r) false = (qB r, 0) := by unfold endR; rw [if_neg (by simp; omega)]
      have eQ : qRes r = (qB r, 0) := by unfold qRes; rw [if_pos hf]
      rw [eE] at hO he
      have hF := hF (by simp [cpRoots, Cp.roots, Ck.root])
      refine ⟨[], [5], rfl, rfl, ⟨⟨fun k => q7.i (310 + k), fun _ => false, fun _ => .empty, fun _ => .tuple #[], fun _ => Hl.none⟩, rfl, hnm.1, trivial, trivial⟩, _, R1, R2, R3, r, .slice (slP (q7.i 310) (q7.i 311)) (q7.i 312).toNat (q7.i 313).toNat, rfl, rfl, hx, ?_, ?_⟩
      · rw [eQ, ← he]; rfl
      · rw [eQ]
        show OwB (hls [q7.h 310]) _ _ _
        rw [hls_one, hF]; exact hO
end Go.Proofs.Ytkdllpialpfopaa
