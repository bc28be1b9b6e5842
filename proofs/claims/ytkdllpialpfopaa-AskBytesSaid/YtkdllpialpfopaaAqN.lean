/- Layer 22: takePiece, takeVector, takeWish, as contracts. Condition: bytes below 256. -/
import Derived.Test.YtkdllpialpfopaaAqL
set_option linter.unusedSimpArgs false
set_option linter.unusedVariables false
set_option linter.constructorNameAsVariable false
namespace Go.Proofs.Ytkdllpialpfopaa
open Go Go.Sx Go.Pk

theorem tkg1 : tkΓ[1]? = some numS := rfl
theorem tkg2 : tkΓ[2]? = some flagS := rfl
theorem tkg3 : tkΓ[3]? = some rawS := rfl
theorem tkg5 : tkΓ[5]? = some textS := rfl
theorem tkg6 : tkΓ[6]? = some parseS := rfl
theorem tkr5 : textS.res = [.one .sl] := rfl
theorem tkr6 : parseS.res = [.agg hk2, .one (.int .i64)] := rfl
theorem ckLen_hk' : (Cp.agg hk2).len = 128 := by kernel_rfl
theorem hd_norm {q : Env} {n : Nat} (h : cpNorms n [.agg hk2, .one (.int .i64)] q) : -1 ≤ q.i (n + 53) ∧ 0 ≤ q.i (n + 54) ∧ 0 ≤ q.i (n + 55) ∧ 0 ≤ q.i (n + 56) := by
  have h : ckNorms n hk2 q := h.1
  have e : hk2 = hk2.take 53 ++ (.sl :: hk2.drop 54) := by kernel_rfl
  have g : ∀ (a b : List Ck) (n : Nat), ckNorms n (a ++ b) q → ckNorms (n + ckLen a) b q := by
    intro a
    induction a with
    | nil => intro b n h; simpa [ckLen] using h
    | cons k a ih =>
      intro b n h
      have := ih b (n + k.len) h.2
      rw [show n + k.len + ckLen a = n + ckLen (k :: a) by simp [ckLen]; omega] at this
      exact this
  rw [e] at h
  have h := g _ _ _ h
  rw [show ckLen (hk2.take 53) = 53 by kernel_rfl] at h
  exact h.1
/-- The only slice of a header that is a result has no spot. -/
theorem hrow_norm {q : Env} {n : Nat} (h : -1 ≤ q.i (n + 53)) : ∀ v ∈ hrow q n, normV v := by
  intro v hv
  have e : hrow q n = (ckCVs n (hk2.take 53)).map (CV.ev q) ++ (.slice (slP (q.i (n + 53)) (q.i (n + 54))) (q.i (n + 55)).toNat (q.i (n + 56)).toNat :: (ckCVs (n + 57) (hk2.drop 54)).map (CV.ev q)) := by kernel_rfl
  have g : ∀ (ks : List Ck) (m : Nat), (ks.all fun k => match k with | .int _ => true | .bool => true | _ => false) = true → ∀ v ∈ (ckCVs m ks).map (CV.ev q), normV v := by
    intro ks
    induction ks with
    | nil => intro m _ v hv; cases hv
    | cons k ks ih =>
      intro m hk v hv
      rw [List.all_cons, Bool.and_eq_true] at hk
      rcases List.mem_cons.1 hv with rfl | hv
      · cases k <;> first | trivial | (simp at hk)
      · exact ih _ hk.2 v hv
  rw [e] at hv
  rcases List.mem_append.1 hv with hv | hv
  · exact g _ _ (by kernel_rfl) v hv
  · rcases List.mem_cons.1 hv with rfl | hv
    · exact normV_bp h
    · exact g _ _ (by kernel_rfl) v hv
theorem roots_hd : (cpRoots 0 [Cp.agg hk2, Cp.one (Ck.int .i64)] ≠ []) = True := by
  have e : cpRoots 0 [Cp.agg hk2, Cp.one (Ck.int .i64)] = [.var 53] := by kernel_rfl
  rw [e]; simp
theorem tuple2 {a b c d : Value} (h : Value.tuple #[a, b] = .tuple #[c, d]) : a = c ∧ b = d := by
  simp only [Value.tuple.injEq, Array.mk.injEq, List.cons.injEq, and_true] at h
  exact h
theorem takePcS_ok : takePcS.OK Try.prog := by
  refine Spec.of_fn (Γ := tkΓ) tkΓ_ok ?_
  rintro xs Hs Rs hl1 hl2 ⟨p, H, s, rfl, rfl, h⟩
  have e1 : Rs = [] := List.length_eq_zero_iff.1 hl2
  subst e1
  obtain ⟨a, x, y, c, F0, rfl, hin⟩ := id h
  refine ⟨takePcW, envI [(a : Int)] false [Hl.none, H], fun _ _ => True, fun _ _ => 0, ?_, ⟨?_, ?_, ?_, ?_⟩, (fun _ h => nomatch h), ?_⟩
  · show [Value.pointer (slP (a : Int) 0)] = _
    rw [ptr0]
  · intro r hr ho; simp [takePcW] at hr; subst hr; exact ⟨H, by simp, Hl.le_refl _⟩
  · intro r hr ho; simp [takePcW] at hr; subst hr; cases ho
  · simp [takePcW]
  · intro r hr; simp [takePcW] at hr; subst hr; trivial
  · show Nd.holds _ _ _ takePcNd
    generalize hρ : envI [(a : Int)] false [Hl.none, H] = ρ
    have w0 : ρ.i 0 = a := by rw [← hρ]; rfl
    have w1 : ρ.h 1 = H := by rw [← hρ]; rfl
    clear hρ
    unfold takePcNd
    simp only [Nd.holds, X.pre, X.rel, X.n, Src.ok, Src.len, Src.vals, true_and, and_true, if_true, Nat.mul_one, Nat.add_zero, Nat.reduceAdd, List.length_cons, List.length_nil, bT_tt, bT_ff, bT_bvar, bT_not, bT_and, bT_or, bT_ite, bT_lt, bT_le, bT_eq, bT_beq, bT_seq, bT_hB, bT_his, bT_hby, bT_hism, bT_hks, iev_lit, iev_var, iev_add, iev_sub, iev_mul, iev_wrap, iev_ite, iev_hI, iev_hP, iev_hmlen, sev_ite, sev_slit, sev_sof, sev_svar, TV.ev, SV.ev, CV.ev, List.map_cons, List.map_nil, Res.hl, cpTV, Cp.sv, Ck.cv, cpSVs, Cp.len, Ck.len, newHs_zero, newHs_one, roots_ne, tkg5, tkg6, tkr5, tkr6, rcc0, ckLen_hk, roots_hd, Nat.reduceAdd]
    intro q0 g0 _
    simp only [g0.i, g0.h, Nat.reduceLT, w0, w1, ptr0]
    refine iText h (by omega) fun q1 g1 h1 B1 => ?_
    refine ⟨⟨_, vText 4096 s, _, rfl, rfl, B1.rd.w, (text256 hin.byte).2, Nat.le_trans vText_len (by omega)⟩, fun q2 g2 ⟨F2, hp, hF2, hn2⟩ q3 g3 _ => ?_⟩
    simp only [g3.i, g3.h, g2.i, g2.h, g1.i, g1.h, g0.i, g0.h, Nat.reduceLT, w0, w1, ptr0]
    have l1 : bytes256 (pText 4096 s).l := (text256 hin.byte).1
    refine iText h1 (by omega) fun q4 g4 h4 B4 => ?_
    obtain ⟨u', bs', R', e1, e2, hR, hpd⟩ := hp
    simp only [List.cons.injEq, and_true] at e1 e2
    subst e1 e2
    obtain rfl := B1.rd.w.uniq hR
    have hF2 : q2.h 7 = F2 := hF2 trivial
    have hn2 := hd_norm hn2
    have g24 : Agree 136 q2 q4 := g3.trans (g4.mono (by omega))
    have ehr : hrow q4 7 = hrow q2 7 := ag_row (a := 7) g24 (by rw [ckLen_hk]; omega)
    -- the header
    obtain ⟨h', hx', hpd'⟩ : ∃ h', IsHd F2 (hrow q2 7) h' ∧ PdHd (vText 4096 s) h' := by
      rcases hpd with ⟨row, h', hv, hx, hf, hb⟩ | ⟨hv, hno⟩
      · have hv : Value.tuple #[.agg (hrow q2 7).toArray, .int .i64 (q2.i 135)] = .tuple #[.agg row.toArray, .int .i64 0] := hv
        have e : hrow q2 7 = row := List.toArray_inj (Value.agg.inj (tuple2 hv).1)
        rw [← e] at hx
        exact ⟨h', hx, Or.inl ⟨hf, hb⟩⟩
      · have hv : Value.tuple #[.agg (hrow q2 7).toArray, .int .i64 (q2.i 135)] = .tuple #[.agg zrow.toArray, .int .i64 2] := hv
        have e : hrow q2 7 = zrow := List.toArray_inj (Value.agg.inj (tuple2 hv).1)
        rw [e]
        exact ⟨hz, hz_is _, Or.inr ⟨rfl, hno⟩⟩
    have erow : (ckCVs 7 hk2 ++ [CV.sl (E.var 137) (E.var 138) (E.var 139) (E.var 140)]).map (CV.ev q4) = hrow q2 7 ++ [.slice (slP (q4.i 137) (q4.i 138)) (q4.i 139).toNat (q4.i 140).toNat] := by
      rw [List.map_append, show (ckCVs 7 hk2).map (CV.ev q4) = hrow q2 7 from ehr]; rfl
    have hl : (hrow q2 7).length = 125 := by kernel_rfl
    intro hdis
    have hd := hdis 3 5 _ _ (by decide) rfl rfl rfl
    have hd : (q4.h 7).dis (q4.h 138) := hd
    rw [g24.h 7 (by omega), hF2] at hd
    have eF : uni q4 [.hp 137 [3, 1] [.var 0] [], .dead, .hp 4 [] [.var 3] [], .hp 7 [] [.var 60] [], .dead, .hp 138 [] [.var 137] []] [3, 5] = F2.un (q4.h 138) := by
      show hls [q4.h 7, q4.h 138] = _
      rw [g24.h 7 (by omega), hF2]
      show F2.un ((q4.h 138).un Hl.none) = _
      rw [Hl.un_none]
    have hpc : IsPc (F2.un (q4.h 138)) (F2.un (q4.h 138)) (hrow q2 7 ++ [.slice (slP (q4.i 137) (q4.i 138)) (q4.i 139).toNat (q4.i 140).toNat]) ⟨h', vText 4096 (pText 4096 s)⟩ := by
      refine ⟨rowOK_app (kb := [.slice]) hx'.ok ⟨rfl, trivial⟩, ?_, ?_, (text256 l1).2, Nat.le_trans vText_len (by omega)⟩
      · rw [List.take_append_of_le_length (by omega), List.take_of_length_le (by omega)]
        exact hx'.mono (Hl.un_left _ _)
      · rw [List.getD_eq_getElem?_getD, List.getElem?_append_right (by omega), hl]
        exact rdW_mono B4.rd.w (Hl.un_right hd)
    obtain ⟨ρ2, hρ2, hnm2⟩ := shape_row (ks := pk2) (row := hrow q2 7 ++ [.slice (slP (q4.i 137) (q4.i 138)) (q4.i 139).toNat (q4.i 140).toNat]) hpc.ok (by kernel_rfl) (fun v hv => by
      rcases List.mem_append.1 hv with hv | hv
      · exact hrow_norm hn2.1 v hv
      · rw [List.mem_singleton] at hv; subst hv; exact normV_bp B4.rx)
    have ev : (TV.sv (.agg (ckCVs 7 hk2 ++ [CV.sl (E.var 137) (E.var 138) (E.var 139) (E.var 140)]))).ev q4 = Value.agg (hrow q2 7 ++ [Value.slice (slP (q4.i 137) (q4.i 138)) (q4.i 139).toNat (q4.i 140).toNat]).toArray := by
      show Value.agg ((ckCVs 7 hk2 ++ [CV.sl (E.var 137) (E.var 138) (E.var 139) (E.var 140)]).map (CV.ev q4)).toArray = _
      rw [erow]
    refine ⟨[[0]], [3, 5], rfl, rfl, ⟨ρ2, ev.trans hρ2.symm, hnm2⟩, _, H, s, q4.h 137, _, ⟨h', vText 4096 (pText 4096 s)⟩, rfl, rfl, h, ?_, h4, ev, ?_, hpd', rfl⟩
    · show [hls [q4.h 137]] = _
      rw [hls_one]
    · rw [eF]; exact hpc
end Go.Proofs.Ytkdllpialpfopaa
