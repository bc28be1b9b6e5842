/- Layer 12: a header's bytes: entry.Bytes and the reference's, as contracts. Condition: the tokens are bytes. -/
import Derived.Test.YtkdllpialpfopaaHdC
import Derived.Test.YtkdllpialpfopaaHdE
set_option linter.unusedSimpArgs false
set_option linter.unusedVariables false
set_option linter.constructorNameAsVariable false
namespace Go.Proofs.Ytkdllpialpfopaa
open Go Go.Sx Go.Pk

/-- A formed header's bytes. -/
def hdB (h : Hd) : List Int := coreB h ++ segI h.c 93 32
open Classical in
noncomputable def bytesOfH (h : Hd) : List Int := if h.Form then hdB h else []
noncomputable def bytesS (f : FuncId) : Sx.Spec where
  fn := f
  own := []
  rd := [10053]
  res := [.one .sl]
  pre := fun xs Hs Rs => ∃ row R h, xs = [.agg row.toArray] ∧ Rs = [R] ∧ IsHd R row h
  post := fun xs Hs Rs v Hs' F => ∃ row R h, xs = [.agg row.toArray] ∧ Rs = [R] ∧ IsHd R row h ∧ OwB F 5 v (bytesOfH h)
noncomputable def hbΓ : List Sx.Spec := [formS 25, coreS 59, formS 19, coreS 69]
theorem hbΓ_ok : ∀ t ∈ hbΓ, t.OK Try.prog := fun t ht => by
  simp only [hbΓ, List.mem_cons, List.mem_nil_iff, or_false] at ht
  rcases ht with rfl | rfl | rfl | rfl
  · exact eFormS_ok
  · exact eCoreS_ok
  · exact rFormS_ok
  · exact rCoreS_ok
theorem hg0 : hbΓ[0]? = some (formS 25) := rfl
theorem hg1 : hbΓ[1]? = some (coreS 59) := rfl
theorem hg2 : hbΓ[2]? = some (formS 19) := rfl
theorem hg3 : hbΓ[3]? = some (coreS 69) := rfl
theorem hr0 (f : FuncId) : (formS f).res = [.one .bool] := rfl
theorem hr1 (f : FuncId) : (coreS f).res = [.one .sl] := rfl
def eBytNd : Nd := .ext (.alloc 131) (.and (.pre (.call 0 132 [.sv (.agg (ckCVs 0 hk2))] [] [.ro 130 [.var 53] false])) (.ext (.call 0 132 [.sv (.agg (ckCVs 0 hk2))] [] [.ro 130 [.var 53] false]) (.and (.imp (.not (.bvar 132)) (.post [.ro 130 [.var 53] false, .dead] (.sv (.one (.sl (.lit (-1)) (.lit 0) (.lit 0) (.lit 0)))))) (.imp (.bvar 132) (.and (.pre (.call 1 133 [.sv (.agg (ckCVs 0 hk2))] [] [.ro 130 [.var 53] false])) (.ext (.call 1 133 [.sv (.agg (ckCVs 0 hk2))] [] [.ro 130 [.var 53] false]) (.and (.pre (.app 137 5 1 1 (.sl (.var 133) (.var 134) (.var 135) (.var 136)) (.var 135) (.hp 133 [] [.var 133] []) (.cvs (ckCVs 96 (List.replicate 32 (Ck.int .u8))) 32))) (.ext (.app 137 5 1 1 (.sl (.var 133) (.var 134) (.var 135) (.var 136)) (.var 135) (.hp 133 [] [.var 133] []) (.cvs (ckCVs 96 (List.replicate 32 (Ck.int .u8))) 32)) (.post [.ro 130 [.var 53] false, .dead, .hp 137 [133] [.var 137, .var 133] []] (.sv (.one (.sl (.var 137) (.lit 0) (.add (.var 135) (.lit 32)) (.var 138)))))))))))))
def rBytNd : Nd := .ext (.alloc 131) (.and (.pre (.call 2 132 [.sv (.agg (ckCVs 0 hk2))] [] [.ro 130 [.var 53] false])) (.ext (.call 2 132 [.sv (.agg (ckCVs 0 hk2))] [] [.ro 130 [.var 53] false]) (.and (.imp (.not (.bvar 132)) (.post [.ro 130 [.var 53] false, .dead] (.sv (.one (.sl (.lit (-1)) (.lit 0) (.lit 0) (.lit 0)))))) (.imp (.bvar 132) (.and (.pre (.call 3 133 [.sv (.agg (ckCVs 0 hk2))] [] [.ro 130 [.var 53] false])) (.ext (.call 3 133 [.sv (.agg (ckCVs 0 hk2))] [] [.ro 130 [.var 53] false]) (.and (.pre (.app 137 5 1 1 (.sl (.var 133) (.var 134) (.var 135) (.var 136)) (.var 135) (.hp 133 [] [.var 133] []) (.cvs (ckCVs 96 (List.replicate 32 (Ck.int .u8))) 32))) (.ext (.app 137 5 1 1 (.sl (.var 133) (.var 134) (.var 135) (.var 136)) (.var 135) (.hp 133 [] [.var 133] []) (.cvs (ckCVs 96 (List.replicate 32 (Ck.int .u8))) 32)) (.post [.ro 130 [.var 53] false, .dead, .hp 137 [133] [.var 137, .var 133] []] (.sv (.one (.sl (.var 137) (.lit 0) (.add (.var 135) (.lit 32)) (.var 138)))))))))))))
noncomputable def eBytW : Walk Try.prog hbΓ 40 where
  Λ := noLoops
  args := (cpSVs 0 [.agg hk2]).map .sv
  mem := [.ro 130 [.var 53] false]
  nv := 131
  nd := eBytNd
  ok := by kernel_rfl
noncomputable def rBytW : Walk Try.prog hbΓ 58 where
  Λ := noLoops
  args := (cpSVs 0 [.agg hk2]).map .sv
  mem := [.ro 130 [.var 53] false]
  nv := 131
  nd := rBytNd
  ok := by kernel_rfl
open Classical in
theorem form_res {f : FuncId} {row : List Value} {R : Hl} {h : Hd} {Hs K : List Hl} {v : Value} {F : Hl} (hx : IsHd R row h) (hp : (formS f).post [.agg row.toArray] Hs [R] v K F) : v = .bool (decide h.Form) := by
  obtain ⟨row', R', h', e1, e2, hx', hv⟩ := hp
  simp only [List.cons.injEq, Value.agg.injEq, and_true] at e1 e2
  have e1 := List.toArray_inj e1
  subst e1 e2
  rw [hx.uniq hx']; exact hv
theorem core_res {f : FuncId} {row : List Value} {R : Hl} {h : Hd} {Hs K : List Hl} {v : Value} {F : Hl} (hx : IsHd R row h) (hp : (coreS f).post [.agg row.toArray] Hs [R] v K F) : OwB F 5 v (coreB h) := by
  obtain ⟨row', R', h', e1, e2, hx', hv⟩ := hp
  simp only [List.cons.injEq, Value.agg.injEq, and_true] at e1 e2
  have e1 := List.toArray_inj e1
  subst e1 e2
  rw [hx.uniq hx']; exact hv
theorem byt_res {f : FuncId} {row : List Value} {R : Hl} {h : Hd} {Hs K : List Hl} {v : Value} {F : Hl} (hx : IsHd R row h) (hp : (bytesS f).post [.agg row.toArray] Hs [R] v K F) : OwB F 5 v (bytesOfH h) := by
  obtain ⟨row', R', h', e1, e2, hx', hv⟩ := hp
  simp only [List.cons.injEq, Value.agg.injEq, and_true] at e1 e2
  have e1 := List.toArray_inj e1
  subst e1 e2
  rw [hx.uniq hx']; exact hv
theorem core_len {R : Hl} {row : List Value} {h : Hd} (hx : IsHd R row h) (h8 : h.t.length ≤ 8) : (coreB h).length ≤ 900 := by
  have lz : ∀ k, cI h.c k < 18446744073709551616 → (numB (cI h.c k).toNat).length ≤ 10 := fun k hk => lenB (by omega)
  have hu : ∀ {k : Nat}, hkd[k]? = some (.int .u64) → k ≠ 53 → cI h.c k < 18446744073709551616 := fun {k} hk h53 => by
    rw [hx.I h53]
    exact (hx.rng _ (List.mem_of_getElem? (row_u64 hx.ok hk))).2
  have l16 := flat16 (T := h.t) (fun t ht => (hx.byte.2 t ht).1)
  have a1 := lenB (u64N_lt (cI h.c 0))
  have a2 := lz 1 (hu rfl (by decide))
  have a3 := lenB (u64N_lt (cI h.c 34))
  have a4 := lz 36 (hu rfl (by decide))
  have a5 := lenB (z := h.t.length) (by omega)
  have a6 := lz 54 (hu rfl (by decide))
  have a7 := lz 55 (hu rfl (by decide))
  have a8 := lz 56 (hu rfl (by decide))
  have a9 := lz 57 (hu rfl (by decide))
  have b1 := lz 58 (hu rfl (by decide))
  have b2 := lz 59 (hu rfl (by decide))
  have b3 := lenB (u64N_lt (cI h.c 92))
  have b4 : (flagB (cB h.c 35)).length = 1 := rfl
  unfold coreB coreZ coreA
  simp only [List.length_append, segI_len]
  omega
open Classical in
theorem eBytS_ok : (bytesS 40).OK Try.prog := by
  refine Spec.of_fn (Γ := hbΓ) hbΓ_ok ?_
  rintro xs Hs Rs hl1 hl2 ⟨row, R, h, rfl, rfl, hx⟩
  have e0 : Hs = [] := List.length_eq_zero_iff.1 hl1
  subst e0
  obtain ⟨ρ, rfl, w130, hnw, n54, n55, n56⟩ := hdr_env (R := R) hx.ok
  refine ⟨eBytW, ρ, fun _ _ => True, fun _ _ => 0, rfl, ⟨?_, ?_, ?_, ?_⟩, (fun _ h => nomatch h), ?_⟩
  · intro r hr ho; simp [eBytW] at hr; subst hr; cases ho
  · intro r hr ho; simp [eBytW] at hr; subst hr; exact ⟨R, by simp, by show (ρ.h 130).le R; rw [w130]; exact Hl.le_refl _⟩
  · simp [eBytW]
  · intro r hr; simp [eBytW] at hr; subst hr; trivial
  · show Nd.holds _ _ _ eBytNd
    unfold eBytNd
    simp only [Nd.holds, X.pre, X.rel, X.n, Src.ok, Src.len, Src.vals, true_and, and_true, if_true, Nat.mul_one, Nat.add_zero, Nat.reduceAdd, List.length_cons, List.length_nil, bT_tt, bT_ff, bT_bvar, bT_not, bT_and, bT_or, bT_ite, bT_lt, bT_le, bT_eq, bT_beq, bT_seq, bT_hB, bT_his, bT_hby, bT_hism, bT_hks, iev_lit, iev_var, iev_add, iev_sub, iev_mul, iev_wrap, iev_ite, iev_hI, iev_hP, iev_hmlen, sev_ite, sev_slit, sev_sof, sev_svar, TV.ev, SV.ev, CV.ev, List.map_cons, List.map_nil, Res.hl, cpTV, Cp.sv, Ck.cv, cpSVs, Cp.len, Ck.len, newHs_zero, newHs_one, roots_ne, hg0, hr0, hg1, hr1, sc2, rcc0]
    intro q1 g1 p1
    have r1 : (ckCVs 0 hk2).map (CV.ev q1) = hrow ρ 0 := hrow_ag (g1.mono (by omega))
    rw [r1, g1.h 130 (by omega), w130]
    refine ⟨⟨_, R, h, rfl, rfl, hx⟩, fun q2 g2 ⟨F2, hp2, _⟩ => ?_⟩
    have hv := form_res hx hp2
    have hv : q2.b 132 = decide h.Form := by simpa [bev_bvar] using hv
    have G2 : Agree 131 ρ q2 := (g1.mono (by omega)).trans (g2.mono (by omega))
    have r2 : (ckCVs 0 hk2).map (CV.ev q2) = hrow ρ 0 := hrow_ag (G2.mono (by omega))
    rw [hv, decide_eq_true_eq, r2, G2.h 130 (by omega), w130]
    refine ⟨fun hf _ => ⟨[], [], rfl, rfl, ⟨⟨fun k => if k = 0 then -1 else 0, fun _ => false, fun _ => .empty, fun _ => .tuple #[], fun _ => Hl.none⟩, rfl, ⟨Int.le_refl _, Int.le_refl _, Int.le_refl _, Int.le_refl _⟩, trivial⟩, _, R, h, rfl, rfl, hx, ?_⟩, fun hf => ?_⟩
    · unfold bytesOfH
      rw [if_neg hf]; exact ownB_nil _ _
    have h8 := hf.2.1
    have hcl := core_len hx h8
    refine ⟨⟨_, R, h, rfl, rfl, hx, h8⟩, fun q3 g3 ⟨F3, hp3, hF3, hn3⟩ => ?_⟩
    have hO := core_res hx hp3
    rw [← hF3 trivial] at hO
    have hn3 : -1 ≤ q3.i 133 ∧ 0 ≤ q3.i 134 ∧ 0 ≤ q3.i 135 ∧ 0 ≤ q3.i 136 := hn3.1
    have e : (q3.i 135).toNat = (coreB h).length := by
      obtain ⟨x, y, c, e, _⟩ := hO.rd
      simp only [Value.slice.injEq] at e
      exact e.2.1
    have e2 : q3.i 135 = ((coreB h).length : Int) := by omega
    rw [e2] at hO ⊢
    have G3 : Agree 131 ρ q3 := G2.trans (g3.mono (by omega))
    have hcode : (ckCVs 96 (List.replicate 32 (Ck.int .u8))).map (CV.ev q3) = bys (segI h.c 93 32) := by
      rw [cv_code, hrow_ag (G3.mono (by omega))]
      congr 1
      exact List.map_congr_left fun j hj => (hx.I (by omega)).symm
    refine appCvs (b2 := segI h.c 93 32) hO hcode (segI_len _ _ _).symm (by omega) (by rw [segI_len]; omega) fun q4 g4 A4 C4 h4 => ?_
    have hl : q4.i 135 + 32 = ((hdB h).length : Int) := by
      rw [g4.i 135 (by omega), e2]
      unfold hdB
      rw [List.length_append, segI_len]; omega
    refine fun _ => ⟨[], [2], rfl, rfl, ⟨⟨fun k => [q4.i 137, 0, q4.i 135 + 32, q4.i 138].getD k 0, fun _ => false, fun _ => .empty, fun _ => .tuple #[], fun _ => Hl.none⟩, rfl, ⟨A4, Int.le_refl _, by show 0 ≤ q4.i 135 + 32; omega, C4⟩, trivial⟩, _, R, h, rfl, rfl, hx, ?_⟩
    show OwB (hls [q4.h 137]) _ (.slice (slP (q4.i 137) 0) (q4.i 135 + 32).toNat (q4.i 138).toNat) _
    unfold bytesOfH
    rw [hls_one, if_pos hf, hl]; exact h4
open Classical in
theorem rBytS_ok : (bytesS 58).OK Try.prog := by
  refine Spec.of_fn (Γ := hbΓ) hbΓ_ok ?_
  rintro xs Hs Rs hl1 hl2 ⟨row, R, h, rfl, rfl, hx⟩
  have e0 : Hs = [] := List.length_eq_zero_iff.1 hl1
  subst e0
  obtain ⟨ρ, rfl, w130, hnw, n54, n55, n56⟩ := hdr_env (R := R) hx.ok
  refine ⟨rBytW, ρ, fun _ _ => True, fun _ _ => 0, rfl, ⟨?_, ?_, ?_, ?_⟩, (fun _ h => nomatch h), ?_⟩
  · intro r hr ho; simp [rBytW] at hr; subst hr; cases ho
  · intro r hr ho; simp [rBytW] at hr; subst hr; exact ⟨R, by simp, by show (ρ.h 130).le R; rw [w130]; exact Hl.le_refl _⟩
  · simp [rBytW]
  · intro r hr; simp [rBytW] at hr; subst hr; trivial
  · show Nd.holds _ _ _ rBytNd
    unfold rBytNd
    simp only [Nd.holds, X.pre, X.rel, X.n, Src.ok, Src.len, Src.vals, true_and, and_true, if_true, Nat.mul_one, Nat.add_zero, Nat.reduceAdd, List.length_cons, List.length_nil, bT_tt, bT_ff, bT_bvar, bT_not, bT_and, bT_or, bT_ite, bT_lt, bT_le, bT_eq, bT_beq, bT_seq, bT_hB, bT_his, bT_hby, bT_hism, bT_hks, iev_lit, iev_var, iev_add, iev_sub, iev_mul, iev_wrap, iev_ite, iev_hI, iev_hP, iev_hmlen, sev_ite, sev_slit, sev_sof, sev_svar, TV.ev, SV.ev, CV.ev, List.map_cons, List.map_nil, Res.hl, cpTV, Cp.sv, Ck.cv, cpSVs, Cp.len, Ck.len, newHs_zero, newHs_one, roots_ne, hg2, hr0, hg3, hr1, sc2, rcc0]
    intro q1 g1 p1
    have r1 : (ckCVs 0 hk2).map (CV.ev q1) = hrow ρ 0 := hrow_ag (g1.mono (by omega))
    rw [r1, g1.h 130 (by omega), w130]
    refine ⟨⟨_, R, h, rfl, rfl, hx⟩, fun q2 g2 ⟨F2, hp2, _⟩ => ?_⟩
    have hv := form_res hx hp2
    have hv : q2.b 132 = decide h.Form := by simpa [bev_bvar] using hv
    have G2 : Agree 131 ρ q2 := (g1.mono (by omega)).trans (g2.mono (by omega))
    have r2 : (ckCVs 0 hk2).map (CV.ev q2) = hrow ρ 0 := hrow_ag (G2.mono (by omega))
    rw [hv, decide_eq_true_eq, r2, G2.h 130 (by omega), w130]
    refine ⟨fun hf _ => ⟨[], [], rfl, rfl, ⟨⟨fun k => if k = 0 then -1 else 0, fun _ => false, fun _ => .empty, fun _ => .tuple #[], fun _ => Hl.none⟩, rfl, ⟨Int.le_refl _, Int.le_refl _, Int.le_refl _, Int.le_refl _⟩, trivial⟩, _, R, h, rfl, rfl, hx, ?_⟩, fun hf => ?_⟩
    · unfold bytesOfH
      rw [if_neg hf]; exact ownB_nil _ _
    have h8 := hf.2.1
    have hcl := core_len hx h8
    refine ⟨⟨_, R, h, rfl, rfl, hx, h8⟩, fun q3 g3 ⟨F3, hp3, hF3, hn3⟩ => ?_⟩
    have hO := core_res hx hp3
    rw [← hF3 trivial] at hO
    have hn3 : -1 ≤ q3.i 133 ∧ 0 ≤ q3.i 134 ∧ 0 ≤ q3.i 135 ∧ 0 ≤ q3.i 136 := hn3.1
    have e : (q3.i 135).toNat = (coreB h).length := by
      obtain ⟨x, y, c, e, _⟩ := hO.rd
      simp only [Value.slice.injEq] at e
      exact e.2.1
    have e2 : q3.i 135 = ((coreB h).length : Int) := by omega
    rw [e2] at hO ⊢
    have G3 : Agree 131 ρ q3 := G2.trans (g3.mono (by omega))
    have hcode : (ckCVs 96 (List.replicate 32 (Ck.int .u8))).map (CV.ev q3) = bys (segI h.c 93 32) := by
      rw [cv_code, hrow_ag (G3.mono (by omega))]
      congr 1
      exact List.map_congr_left fun j hj => (hx.I (by omega)).symm
    refine appCvs (b2 := segI h.c 93 32) hO hcode (segI_len _ _ _).symm (by omega) (by rw [segI_len]; omega) fun q4 g4 A4 C4 h4 => ?_
    have hl : q4.i 135 + 32 = ((hdB h).length : Int) := by
      rw [g4.i 135 (by omega), e2]
      unfold hdB
      rw [List.length_append, segI_len]; omega
    refine fun _ => ⟨[], [2], rfl, rfl, ⟨⟨fun k => [q4.i 137, 0, q4.i 135 + 32, q4.i 138].getD k 0, fun _ => false, fun _ => .empty, fun _ => .tuple #[], fun _ => Hl.none⟩, rfl, ⟨A4, Int.le_refl _, by show 0 ≤ q4.i 135 + 32; omega, C4⟩, trivial⟩, _, R, h, rfl, rfl, hx, ?_⟩
    show OwB (hls [q4.h 137]) _ (.slice (slP (q4.i 137) 0) (q4.i 135 + 32).toNat (q4.i 138).toNat) _
    unfold bytesOfH
    rw [hls_one, if_pos hf, hl]; exact h4
end Go.Proofs.Ytkdllpialpfopaa
