/- Layer 22: what is put together, step by step; putVector and putPiece as contracts. Condition: at most 800000 bytes. -/
import Derived.Test.YtkdllpialpfopaaAqE
import Derived.Test.YtkdllpialpfopaaHdJ
set_option linter.unusedSimpArgs false
set_option linter.unusedVariables false
set_option linter.constructorNameAsVariable false
namespace Go.Proofs.Ytkdllpialpfopaa
open Go Go.Sx Go.Pk

/-- Bytes are put together in a piece, at most so many. -/
structure OP (H : Hl) (x : Int) (bs : List Int) (m : Nat) : Prop where
  out : OutAt H (.pointer (slP x 0)) bs false
  len : bs.length ≤ m
section
variable {q : Env} {n a m : Nat} {H R : Hl} {bs : List Int} {A : Env → Hl → Prop} {K : Env → Prop} {v : Value}
theorem numP {z : Int} (h : OP H (q.i a) bs m) (hm : m ≤ 800000) (ha : a < n) (hz : 0 ≤ z ∧ z < 18446744073709551616) (k : ∀ q', Agree n q q' → OP (q'.h n) (q'.i a) (bs ++ numB z.toNat) (m + 10) → K q') :
    oNumS.pre [.pointer (slP (q.i a) 0), .int .u64 z] [H] [] ∧ ∀ q', Agree n q q' → (∃ F, oNumS.post [.pointer (slP (q.i a) 0), .int .u64 z] [H] [] v [q'.h n] F ∧ A q' F) → K q' :=
  numStep h.out hz (Nat.le_trans h.len (by omega)) fun q' g hO => k q' g ⟨by rw [g.i a ha]; exact hO, by
    have := h.len
    have := lenB (z := z.toNat) (by omega)
    rw [List.length_append]; omega⟩
theorem flagP {b : Bool} (h : OP H (q.i a) bs m) (hm : m ≤ 800000) (ha : a < n) (k : ∀ q', Agree n q q' → OP (q'.h n) (q'.i a) (bs ++ flagB b) (m + 1) → K q') :
    oFlagS.pre [.pointer (slP (q.i a) 0), .bool b] [H] [] ∧ ∀ q', Agree n q q' → (∃ F, oFlagS.post [.pointer (slP (q.i a) 0), .bool b] [H] [] v [q'.h n] F ∧ A q' F) → K q' :=
  flagStep h.out (Nat.le_trans h.len (by omega)) fun q' g hO => k q' g ⟨by rw [g.i a ha]; exact hO, by
    have := h.len
    rw [List.length_append]
    show _ + 1 ≤ _
    omega⟩
theorem rawP {u : Value} {b2 : List Int} {m2 : Nat} (h : OP H (q.i a) bs m) (hm : m ≤ 800000) (ha : a < n) (h2 : RdW R u b2) (hl2 : b2.length ≤ m2) (hm2 : m2 ≤ 90000) (k : ∀ q', Agree n q q' → OP (q'.h n) (q'.i a) (bs ++ b2) (m + m2) → K q') :
    oRawS.pre [.pointer (slP (q.i a) 0), u] [H] [R] ∧ ∀ q', Agree n q q' → (∃ F, oRawS.post [.pointer (slP (q.i a) 0), u] [H] [R] v [q'.h n] F ∧ A q' F) → K q' :=
  rawStep h.out h2 (Nat.le_trans h.len (by omega)) (by omega) fun q' g hO => k q' g ⟨by rw [g.i a ha]; exact hO, by
    have := h.len
    rw [List.length_append]; omega⟩
theorem text_post {p u v : Value} {H R F : Hl} {K : List Hl} {bs b2 : List Int} {lg : Bool} (h : OutAt H p bs lg) (h2 : RdW R u b2) (hp : oTextS.post [p, u] [H] [R] v K F) : ∃ H', K = [H'] ∧ OutAt H' p (outText bs lg b2).1 (outText bs lg b2).2 := by
  obtain ⟨p', z', Hx, Rx, bs', lg', b2', H', hx, hH, hR, hO, hB, hK, hO'⟩ := hp
  have hx : p = p' ∧ u = z' := by simpa using hx
  obtain ⟨e1, e2⟩ := hx
  have hH : H = Hx := by simpa using hH
  have hR : R = Rx := by simpa using hR
  subst e1 e2 hH hR
  obtain ⟨e1, e2⟩ := h.uniq hO
  subst e1 e2
  have e := h2.uniq hB
  subst e
  exact ⟨H', hK, hO'⟩
theorem textP {u : Value} {b2 : List Int} {m2 : Nat} (h : OP H (q.i a) bs m) (hm : m ≤ 800000) (ha : a < n) (h2 : RdW R u b2) (hl2 : b2.length ≤ m2) (hm2 : m2 ≤ 4096) (k : ∀ q', Agree n q q' → OP (q'.h n) (q'.i a) (bs ++ textBytes b2) (m + 10 + m2) → K q') :
    oTextS.pre [.pointer (slP (q.i a) 0), u] [H] [R] ∧ ∀ q', Agree n q q' → (∃ F, oTextS.post [.pointer (slP (q.i a) 0), u] [H] [R] v [q'.h n] F ∧ A q' F) → K q' := by
  refine ⟨⟨_, _, H, R, bs, false, b2, rfl, rfl, rfl, h.out, h2, Nat.le_trans h.len hm, by omega⟩, fun q' g ⟨F, hp, _⟩ => k q' g ?_⟩
  obtain ⟨H', hK, hO⟩ := text_post h.out h2 hp
  have hK : q'.h n = H' := by simpa using hK
  have e : outText bs false b2 = (bs ++ textBytes b2, false) := by unfold outText; rw [if_neg (by omega)]
  rw [e, ← hK] at hO
  refine ⟨by rw [g.i a ha]; exact hO, ?_⟩
  have := h.len
  have := lenB (z := b2.length) (by omega)
  unfold textBytes
  rw [List.length_append, List.length_append]; omega
end
/-! ### putVector -/
def us (l : List Int) : List Value := l.map (Value.int .u64)
def vecB (l : List Int) : List Int := (l.map fun z => numB z.toNat).flatten
def u64s (l : List Int) : Prop := ∀ z ∈ l, 0 ≤ z ∧ z < 18446744073709551616
theorem us_inj {a b : List Int} (h : us a = us b) : a = b := by
  have := congrArg (List.map fun v => valI (some v)) h
  simpa [us, List.map_map, Function.comp_def, valI] using this
def putVecS : Sx.Spec where
  fn := 15
  own := [.arg 0]
  rd := []
  res := []
  pre := fun xs Hs Rs => ∃ p H bs vs, xs = [p, .agg (us vs).toArray] ∧ Hs = [H] ∧ OutAt H p bs false ∧ vs.length = 6 ∧ u64s vs ∧ bs.length ≤ 700000
  post := fun xs Hs Rs v Hs' F => ∃ p H bs vs H', xs = [p, .agg (us vs).toArray] ∧ Hs = [H] ∧ OutAt H p bs false ∧ Hs' = [H'] ∧ OutAt H' p (bs ++ vecB vs) false
def putVecNd : Nd := .ext (.alloc 8) (.and (.pre (.call 0 9 [.sv (.one (.hptr (.var 0) (.lit 0))), .sv (.one (.int .u64 (.var 1)))] [.hp 7 [] [.var 0] []] [])) (.ext (.call 0 9 [.sv (.one (.hptr (.var 0) (.lit 0))), .sv (.one (.int .u64 (.var 1)))] [.hp 7 [] [.var 0] []] []) (.and (.pre (.call 0 11 [.sv (.one (.hptr (.var 0) (.lit 0))), .sv (.one (.int .u64 (.var 2)))] [.hp 9 [7] [.var 0] []] [])) (.ext (.call 0 11 [.sv (.one (.hptr (.var 0) (.lit 0))), .sv (.one (.int .u64 (.var 2)))] [.hp 9 [7] [.var 0] []] []) (.and (.pre (.call 0 13 [.sv (.one (.hptr (.var 0) (.lit 0))), .sv (.one (.int .u64 (.var 3)))] [.hp 11 [9, 7] [.var 0] []] [])) (.ext (.call 0 13 [.sv (.one (.hptr (.var 0) (.lit 0))), .sv (.one (.int .u64 (.var 3)))] [.hp 11 [9, 7] [.var 0] []] []) (.and (.pre (.call 0 15 [.sv (.one (.hptr (.var 0) (.lit 0))), .sv (.one (.int .u64 (.var 4)))] [.hp 13 [11, 9, 7] [.var 0] []] [])) (.ext (.call 0 15 [.sv (.one (.hptr (.var 0) (.lit 0))), .sv (.one (.int .u64 (.var 4)))] [.hp 13 [11, 9, 7] [.var 0] []] []) (.and (.pre (.call 0 17 [.sv (.one (.hptr (.var 0) (.lit 0))), .sv (.one (.int .u64 (.var 5)))] [.hp 15 [13, 11, 9, 7] [.var 0] []] [])) (.ext (.call 0 17 [.sv (.one (.hptr (.var 0) (.lit 0))), .sv (.one (.int .u64 (.var 5)))] [.hp 15 [13, 11, 9, 7] [.var 0] []] []) (.and (.pre (.call 0 19 [.sv (.one (.hptr (.var 0) (.lit 0))), .sv (.one (.int .u64 (.var 6)))] [.hp 17 [15, 13, 11, 9, 7] [.var 0] []] [])) (.ext (.call 0 19 [.sv (.one (.hptr (.var 0) (.lit 0))), .sv (.one (.int .u64 (.var 6)))] [.hp 17 [15, 13, 11, 9, 7] [.var 0] []] []) (.post [.hp 19 [17, 15, 13, 11, 9, 7] [.var 0] [], .dead] (.tup []))))))))))))))
def aoΓ : List Sx.Spec := [oNumS, oRawS, oFlagS, oTextS, oEndS]
noncomputable def apΓ : List Sx.Spec := [oNumS, oRawS, oFlagS, oTextS, oEndS, bytesS 40]
theorem apΓ_ok : ∀ t ∈ apΓ, t.OK Try.prog := fun t ht => by
  simp only [apΓ, List.mem_cons, List.mem_nil_iff, or_false] at ht
  rcases ht with rfl | rfl | rfl | rfl | rfl | rfl
  · exact oNumS_ok
  · exact oRawS_ok
  · exact oFlagS_ok
  · exact oTextS_ok
  · exact oEndS_ok
  · exact eBytS_ok
noncomputable def putVecW : Walk Try.prog apΓ 15 where
  Λ := noLoops
  args := [TP (.var 0) (.lit 0), .sv (.agg (ckCVs 1 (List.replicate 6 (.int .u64))))]
  mem := [.hp 7 [] [.var 0] []]
  nv := 8
  nd := putVecNd
  ok := by kernel_rfl
theorem apg0 : apΓ[0]? = some oNumS := rfl
theorem apg3 : apΓ[3]? = some oTextS := rfl
theorem apg5 : apΓ[5]? = some (bytesS 40) := rfl
theorem apr0 : oNumS.res = [] := rfl
theorem apr3 : oTextS.res = [] := rfl
theorem apr5 (f : FuncId) : (bytesS f).res = [.one .sl] := rfl
theorem ptrA (a : Nat) : Value.pointer (some ⟨a, 0, none⟩) = .pointer (slP (a : Int) 0) := by rw [slP_pos (by omega), Int.toNat_natCast]; rfl
theorem putVecS_ok : putVecS.OK Try.prog := by
  refine Spec.of_fn (Γ := apΓ) apΓ_ok ?_
  rintro xs Hs Rs hl1 hl2 ⟨p, H, bs, vs, rfl, rfl, hO, h6, hu, hb⟩
  have e1 : Rs = [] := List.length_eq_zero_iff.1 hl2
  subst e1
  match vs, h6 with
  | [v1, v2, v3, v4, v5, v6], _ =>
  obtain ⟨a, _, _, rfl, _⟩ := id hO.whole
  have hv : ∀ z ∈ [v1, v2, v3, v4, v5, v6], 0 ≤ z ∧ z < 18446744073709551616 := hu
  simp only [List.mem_cons, List.mem_nil_iff, or_false, forall_eq_or_imp, forall_eq] at hv
  obtain ⟨u1, u2, u3, u4, u5, u6⟩ := hv
  refine ⟨putVecW, envI [(a : Int), v1, v2, v3, v4, v5, v6] false [Hl.none, Hl.none, Hl.none, Hl.none, Hl.none, Hl.none, Hl.none, H], fun _ _ => True, fun _ _ => 0, ?_, ⟨?_, ?_, ?_, ?_⟩, (fun _ h => nomatch h), ?_⟩
  · show [Value.pointer (slP (a : Int) 0), _] = _
    rw [ptr0]; rfl
  · intro r hr ho; simp [putVecW] at hr; subst hr; exact ⟨H, by simp, Hl.le_refl _⟩
  · intro r hr ho; simp [putVecW] at hr; subst hr; cases ho
  · simp [putVecW]
  · intro r hr; simp [putVecW] at hr; subst hr; trivial
  · show Nd.holds _ _ _ putVecNd
    generalize hρ : envI [(a : Int), v1, v2, v3, v4, v5, v6] false [Hl.none, Hl.none, Hl.none, Hl.none, Hl.none, Hl.none, Hl.none, H] = ρ
    have w0 : ρ.i 0 = a := by rw [← hρ]; rfl
    have w1 : ρ.i 1 = v1 := by rw [← hρ]; rfl
    have w2 : ρ.i 2 = v2 := by rw [← hρ]; rfl
    have w3 : ρ.i 3 = v3 := by rw [← hρ]; rfl
    have w4 : ρ.i 4 = v4 := by rw [← hρ]; rfl
    have w5 : ρ.i 5 = v5 := by rw [← hρ]; rfl
    have w6 : ρ.i 6 = v6 := by rw [← hρ]; rfl
    have w7 : ρ.h 7 = H := by rw [← hρ]; rfl
    clear hρ
    unfold putVecNd
    simp only [Nd.holds, X.pre, X.rel, X.n, Src.ok, Src.len, Src.vals, true_and, and_true, if_true, Nat.mul_one, Nat.add_zero, Nat.reduceAdd, List.length_cons, List.length_nil, bT_tt, bT_ff, bT_bvar, bT_not, bT_and, bT_or, bT_ite, bT_lt, bT_le, bT_eq, bT_beq, bT_seq, bT_hB, bT_his, bT_hby, bT_hism, bT_hks, iev_lit, iev_var, iev_add, iev_sub, iev_mul, iev_wrap, iev_ite, iev_hI, iev_hP, iev_hmlen, sev_ite, sev_slit, sev_sof, sev_svar, TV.ev, SV.ev, CV.ev, List.map_cons, List.map_nil, Res.hl, cpTV, Cp.sv, Ck.cv, cpSVs, Cp.len, Ck.len, newHs_zero, newHs_one, roots_ne, apg0, apr0]
    intro q0 g0 _
    have G0 : Agree 8 ρ q0 := g0
    have P0 : OP H (q0.i 0) bs 700000 := ⟨by rw [G0.i 0 (by omega), w0, ptr0]; exact hO, hb⟩
    rw [G0.i 1 (by omega), w1, G0.h 7 (by omega), w7]
    refine numP P0 (by omega) (by omega) u1 fun q1 g1 P1 => ?_
    have G1 : Agree 8 ρ q1 := G0.trans (g1.mono (by omega))
    rw [G1.i 2 (by omega), w2]
    refine numP P1 (by omega) (by omega) u2 fun q2 g2 P2 => ?_
    have G2 : Agree 8 ρ q2 := G1.trans (g2.mono (by omega))
    rw [G2.i 3 (by omega), w3]
    refine numP P2 (by omega) (by omega) u3 fun q3 g3 P3 => ?_
    have G3 : Agree 8 ρ q3 := G2.trans (g3.mono (by omega))
    rw [G3.i 4 (by omega), w4]
    refine numP P3 (by omega) (by omega) u4 fun q4 g4 P4 => ?_
    have G4 : Agree 8 ρ q4 := G3.trans (g4.mono (by omega))
    rw [G4.i 5 (by omega), w5]
    refine numP P4 (by omega) (by omega) u5 fun q5 g5 P5 => ?_
    have G5 : Agree 8 ρ q5 := G4.trans (g5.mono (by omega))
    rw [G5.i 6 (by omega), w6]
    refine numP P5 (by omega) (by omega) u6 fun q6 g6 P6 => ?_
    have G6 : Agree 8 ρ q6 := G5.trans (g6.mono (by omega))
    intro _
    refine ⟨[[0]], [], rfl, rfl, ⟨⟨fun _ => 0, fun _ => false, fun _ => .empty, fun _ => .tuple #[], fun _ => Hl.none⟩, rfl, trivial⟩, _, H, bs, _, q6.h 19, rfl, rfl, hO, ?_, ?_⟩
    · show [hls [q6.h 19]] = _
      rw [hls_one]
    · have := P6.out
      rw [G6.i 0 (by omega), w0, ptr0] at this
      have e : vecB [v1, v2, v3, v4, v5, v6] = numB v1.toNat ++ (numB v2.toNat ++ (numB v3.toNat ++ (numB v4.toNat ++ (numB v5.toNat ++ (numB v6.toNat ++ []))))) := rfl
      rw [e, List.append_nil]
      simpa only [List.append_assoc] using this
/-! ### putPiece -/
open Classical in
noncomputable def pcB (p : Pc) : List Int := textBytes (bytesOfH p.h) ++ textBytes p.b
noncomputable def putPcS : Sx.Spec where
  fn := 14
  own := [.arg 0]
  rd := [1001053, 1001125]
  res := []
  pre := fun xs Hs Rs => ∃ p row H R1 R2 bs c, xs = [p, .agg row.toArray] ∧ Hs = [H] ∧ Rs = [R1, R2] ∧ OutAt H p bs false ∧ IsPc R1 R2 row c ∧ c.b.length ≤ 4096 ∧ bs.length ≤ 700000
  post := fun xs Hs Rs v Hs' F => ∃ p row H R1 R2 bs c H', xs = [p, .agg row.toArray] ∧ Hs = [H] ∧ Rs = [R1, R2] ∧ OutAt H p bs false ∧ IsPc R1 R2 row c ∧ Hs' = [H'] ∧ OutAt H' p (bs ++ pcB c) false
def putPcNd : Nd := .ext (.alloc 136) (.and (.pre (.call 5 137 [.sv (.agg (ckCVs 0 hk2))] [] [.ro 134 [.var 53] false])) (.ext (.call 5 137 [.sv (.agg (ckCVs 0 hk2))] [] [.ro 134 [.var 53] false]) (.and (.pre (.call 3 141 [.sv (.one (.hptr (.var 132) (.lit 0))), .sv (.one (.sl (.var 137) (.var 138) (.var 139) (.var 140)))] [.hp 133 [] [.var 132] []] [.hp 137 [] [.var 137] []])) (.ext (.call 3 141 [.sv (.one (.hptr (.var 132) (.lit 0))), .sv (.one (.sl (.var 137) (.var 138) (.var 139) (.var 140)))] [.hp 133 [] [.var 132] []] [.hp 137 [] [.var 137] []]) (.and (.pre (.call 3 143 [.sv (.one (.hptr (.var 132) (.lit 0))), .sv (.one (.sl (.var 128) (.var 129) (.var 130) (.var 131)))] [.hp 141 [133] [.var 132] []] [.ro 135 [.var 128] false])) (.ext (.call 3 143 [.sv (.one (.hptr (.var 132) (.lit 0))), .sv (.one (.sl (.var 128) (.var 129) (.var 130) (.var 131)))] [.hp 141 [133] [.var 132] []] [.ro 135 [.var 128] false]) (.post [.hp 143 [141, 133] [.var 132] [], .ro 134 [.var 53] false, .ro 135 [.var 128] false, .dead, .hp 137 [] [.var 137] []] (.tup []))))))))
noncomputable def putPcW : Walk Try.prog apΓ 14 where
  Λ := noLoops
  args := [TP (.var 132) (.lit 0), .sv (.agg (ckCVs 0 pk2))]
  mem := [.hp 133 [] [.var 132] [], .ro 134 [.var 53] false, .ro 135 [.var 128] false]
  nv := 136
  nd := putPcNd
  ok := by kernel_rfl
theorem bytesOf_len {R : Hl} {row : List Value} {h : Hd} (x : IsHd R row h) : (bytesOfH h).length ≤ 932 := by
  unfold bytesOfH
  split
  · rename_i hf
    have := core_len x hf.2.1
    unfold hdB
    rw [List.length_append, segI_len]; omega
  · simp
theorem putPcS_ok : putPcS.OK Try.prog := by
  refine Spec.of_fn (Γ := apΓ) apΓ_ok ?_
  rintro xs Hs Rs hl1 hl2 ⟨p, row, H, R1, R2, bs, c, rfl, rfl, rfl, hO, hx, hcl, hb⟩
  obtain ⟨a, _, _, rfl, _⟩ := id hO.whole
  obtain ⟨ρ0, rfl, hn, hh⟩ := row_env [(133, H), (134, R1), (135, R2)] hx.ok
  have hHd := hx.hd
  have hBd := hx.body
  rw [show ((ckCVs 0 pk2).map (CV.ev ρ0)).take 125 = hrow ρ0 0 by kernel_rfl] at hHd
  rw [show ((ckCVs 0 pk2).map (CV.ev ρ0)).getD 125 noV = .slice (slP (ρ0.i 128) (ρ0.i 129)) (ρ0.i 130).toNat (ρ0.i 131).toNat by kernel_rfl] at hBd
  obtain ⟨ρ, hρ⟩ : ∃ ρ : Env, ρ = ρ0.setI 132 a := ⟨_, rfl⟩
  have g : Agree 132 ρ0 ρ := by rw [hρ]; exact agree_setI ρ0 132 _ (by omega)
  have eh : ρ.h = ρ0.h := by rw [hρ]; rfl
  have w132 : ρ.i 132 = a := by rw [hρ]; simp [Env.setI]
  have w133 : ρ.h 133 = H := by rw [eh]; exact hh 133
  have w134 : ρ.h 134 = R1 := by rw [eh]; exact hh 134
  have w135 : ρ.h 135 = R2 := by rw [eh]; exact hh 135
  clear hρ
  have er : (ckCVs 0 pk2).map (CV.ev ρ) = (ckCVs 0 pk2).map (CV.ev ρ0) := ag_row g (by rw [show ckLen pk2 = 132 by kernel_rfl]; omega)
  rw [← g.i 128 (by omega), ← g.i 129 (by omega), ← g.i 130 (by omega), ← g.i 131 (by omega)] at hBd
  rw [← hrow_ag (g.mono (by omega))] at hHd
  have hx0 := hx
  rw [← er] at hx ⊢
  refine ⟨putPcW, ρ, fun _ _ => True, fun _ _ => 0, ?_, ⟨?_, ?_, ?_, ?_⟩, (fun _ h => nomatch h), ?_⟩
  · show [Value.pointer (slP (ρ.i 132) 0), _] = _
    rw [w132, ptr0]; rfl
  · intro r hr ho; simp [putPcW] at hr
    rcases hr with rfl | rfl | rfl
    · exact ⟨H, by simp, by show (ρ.h 133).le H; rw [w133]; exact Hl.le_refl _⟩
    · cases ho
    · cases ho
  · intro r hr ho; simp [putPcW] at hr
    rcases hr with rfl | rfl | rfl
    · cases ho
    · exact ⟨R1, by simp, by show (ρ.h 134).le R1; rw [w134]; exact Hl.le_refl _⟩
    · exact ⟨R2, by simp, by show (ρ.h 135).le R2; rw [w135]; exact Hl.le_refl _⟩
  · simp [putPcW, Res.own]
  · intro r hr; simp [putPcW] at hr; rcases hr with rfl | rfl | rfl <;> trivial
  · show Nd.holds _ _ _ putPcNd
    unfold putPcNd
    simp only [Nd.holds, X.pre, X.rel, X.n, Src.ok, Src.len, Src.vals, true_and, and_true, if_true, Nat.mul_one, Nat.add_zero, Nat.reduceAdd, List.length_cons, List.length_nil, bT_tt, bT_ff, bT_bvar, bT_not, bT_and, bT_or, bT_ite, bT_lt, bT_le, bT_eq, bT_beq, bT_seq, bT_hB, bT_his, bT_hby, bT_hism, bT_hks, iev_lit, iev_var, iev_add, iev_sub, iev_mul, iev_wrap, iev_ite, iev_hI, iev_hP, iev_hmlen, sev_ite, sev_slit, sev_sof, sev_svar, TV.ev, SV.ev, CV.ev, List.map_cons, List.map_nil, Res.hl, cpTV, Cp.sv, Ck.cv, cpSVs, Cp.len, Ck.len, newHs_zero, newHs_one, roots_ne, apg3, apr3, apg5, apr5, rcc0]
    intro q0 g0 _
    have G0 : Agree 136 ρ q0 := g0
    rw [show (ckCVs 0 hk2).map (CV.ev q0) = hrow ρ 0 from hrow_ag (G0.mono (by omega)), G0.h 134 (by omega), w134]
    refine ⟨⟨_, R1, c.h, rfl, rfl, hHd⟩, fun q1 g1 ⟨F, hp, hF, hnm⟩ => ?_⟩
    have hB := byt_res hHd hp
    rw [← hF trivial] at hB
    have G1 : Agree 136 ρ q1 := G0.trans (g1.mono (by omega))
    have P1 : OP H (q1.i 132) bs 700000 := ⟨by rw [G1.i 132 (by omega), w132, ptr0]; exact hO, hb⟩
    rw [G1.h 133 (by omega), w133]
    refine textP P1 (by omega) (by omega) hB.rd.w (bytesOf_len hHd) (by omega) fun q2 g2 P2 => ?_
    have G2 : Agree 136 ρ q2 := G1.trans (g2.mono (by omega))
    rw [G2.h 135 (by omega), w135, G2.i 128 (by omega), G2.i 129 (by omega), G2.i 130 (by omega), G2.i 131 (by omega)]
    refine textP P2 (by omega) (by omega) hBd hcl (by omega) fun q3 g3 P3 => ?_
    have G3 : Agree 136 ρ q3 := G2.trans (g3.mono (by omega))
    intro _
    refine ⟨[[0]], [], rfl, rfl, ⟨⟨fun _ => 0, fun _ => false, fun _ => .empty, fun _ => .tuple #[], fun _ => Hl.none⟩, rfl, trivial⟩, _, _, H, R1, R2, bs, c, q3.h 143, rfl, rfl, rfl, hO, hx, ?_, ?_⟩
    · show [hls [q3.h 143]] = _
      rw [hls_one]
    · have := P3.out
      rw [G3.i 132 (by omega), w132, ptr0, List.append_assoc] at this
      exact this
end Go.Proofs.Ytkdllpialpfopaa
