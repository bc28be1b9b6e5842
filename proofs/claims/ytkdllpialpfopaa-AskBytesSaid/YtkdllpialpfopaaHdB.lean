/- Layer 12: entry.Formed and the reference's Formed, as contracts: the same of every header. Condition: the tokens are bytes. -/
import Derived.Test.YtkdllpialpfopaaHdA
set_option linter.unusedSimpArgs false
set_option linter.unusedVariables false
set_option linter.constructorNameAsVariable false
namespace Go.Proofs.Ytkdllpialpfopaa
open Go Go.Sx Go.Pk

def rngV : Value → Prop
  | .int .u8 z => 0 ≤ z ∧ z < 256
  | .int .u64 z => 0 ≤ z ∧ z < 18446744073709551616
  | .int .i64 z => i64in z
  | _ => True
/-- A header by what it tells: its cells but for the tokens' slice, and the tokens. -/
structure Hd where
  c : List Value
  t : List (List Int)
def Hd.Form (h : Hd) : Prop := placedP h.c ∧ h.t.length ≤ 8 ∧ SortedT h.t ∧ isPad (cI h.c 92 - 16) ∧ (cB h.c 35 = true → h.t = [] ∧ zer (cI h.c) 37 16)
/-- A row reads as a header. -/
structure IsHd (R : Hl) (row : List Value) (h : Hd) : Prop where
  ok : rowOK row hkd
  rng : ∀ v ∈ row, rngV v
  core : h.c = row.set 53 (.bool false)
  tok : RdRows R (row.getD 53 (.bool false)) tkd (h.t.map bys)
  byte : toksIn h.t
theorem rdRows_mono {R R' : Hl} {v : Value} {ks : List Kd} {rows : List (List Value)} (h : RdRows R v ks rows) (hl : R.le R') : RdRows R' v ks rows := by
  obtain ⟨x, y, c, e, hy, h⟩ := h
  refine ⟨x, y, c, e, hy, h.imp id fun ⟨hx, h⟩ => ⟨hx, fun i row hr => ⟨(h i row hr).1, fun j u hu => ?_⟩⟩⟩
  have hc := (h i row hr).2 j u hu
  unfold Hl.cell at hc ⊢
  cases hR : R x.toNat with
  | none => rw [hR] at hc; cases hc
  | some o => rw [hl _ _ hR]; rw [hR] at hc; exact hc
theorem IsHd.mono {R R' : Hl} {row : List Value} {h : Hd} (x : IsHd R row h) (hl : R.le R') : IsHd R' row h := ⟨x.ok, x.rng, x.core, rdRows_mono x.tok hl, x.byte⟩
theorem bys_mapInj : ∀ {a b : List (List Int)}, a.map bys = b.map bys → a = b
  | [], [], _ => rfl
  | [], _ :: _, h => by cases h
  | _ :: _, [], h => by cases h
  | u :: a, v :: b, h => by
    simp only [List.map_cons, List.cons.injEq] at h
    rw [bys_inj h.1, bys_mapInj h.2]
theorem IsHd.uniq {R : Hl} {row : List Value} {h h' : Hd} (x : IsHd R row h) (y : IsHd R row h') : h = h' := by
  obtain ⟨c, t⟩ := h
  obtain ⟨c', t'⟩ := h'
  have e1 : c = c' := x.core.trans y.core.symm
  have e3 : t = t' := bys_mapInj (x.tok.uniq y.tok)
  rw [e1, e3]
theorem core_I {row : List Value} {k : Nat} (h : k ≠ 53) : cI (row.set 53 (.bool false)) k = cI row k := by
  unfold cI; rw [List.getElem?_set_ne (by omega)]
theorem core_B {row : List Value} {k : Nat} (h : k ≠ 53) : cB (row.set 53 (.bool false)) k = cB row k := by
  unfold cB; rw [List.getElem?_set_ne (by omega)]
theorem IsHd.I {R : Hl} {row : List Value} {h : Hd} (x : IsHd R row h) {k : Nat} (hk : k ≠ 53) : cI h.c k = cI row k := by rw [x.core, core_I hk]
theorem IsHd.B {R : Hl} {row : List Value} {h : Hd} (x : IsHd R row h) {k : Nat} (hk : k ≠ 53) : cB h.c k = cB row k := by rw [x.core, core_B hk]
theorem zer_congr {f g : Nat → Int} {n k : Nat} (h : ∀ j, j < k → f (n + j) = g (n + j)) : zer f n k ↔ zer g n k := by
  rw [zer_iff, zer_iff]
  exact ⟨fun hf j hj => by rw [← h j hj]; exact hf j hj, fun hg j hj => by rw [h j hj]; exact hg j hj⟩
theorem IsHd.form {R : Hl} {row : List Value} {h : Hd} (x : IsHd R row h) : h.Form ↔ (placedP row ∧ h.t.length ≤ 8 ∧ SortedT h.t ∧ isPad (cI row 92 - 16) ∧ (cB row 35 = true → h.t = [] ∧ zer (cI row) 37 16)) := by
  have e1 : placedP h.c ↔ placedP row := by
    unfold placedP
    have hz : zer (cI h.c) 2 32 ↔ zer (cI row) 2 32 := zer_congr fun j hj => x.I (by omega)
    have hk : cI h.c (54 + (cI row 0 - 1).toNat) = cI row (54 + (cI row 0 - 1).toNat) := x.I (by omega)
    rw [x.I (k := 0) (by decide), x.I (k := 1) (by decide), x.I (k := 34) (by decide), x.I (k := 36) (by decide), x.I (k := 54) (by decide), x.I (k := 55) (by decide), x.I (k := 56) (by decide), x.I (k := 57) (by decide), x.I (k := 58) (by decide), x.I (k := 59) (by decide), hz, hk]
  have e2 : zer (cI h.c) 37 16 ↔ zer (cI row) 37 16 := zer_congr fun j hj => x.I (by omega)
  unfold Hd.Form
  rw [e1, e2, x.I (k := 92) (by decide), x.B (k := 35) (by decide)]
/-- The numbers that stand behind a row. -/
theorem hdr_env {R : Hl} {row : List Value} (h : rowOK row hkd) : ∃ q : Env, row = hrow q 0 ∧ q.h 130 = R ∧ ckNormsW 0 hk2 q ∧ 0 ≤ q.i 54 ∧ 0 ≤ q.i 55 ∧ 0 ≤ q.i 56 := by
  obtain ⟨q, _, hn, e⟩ := row_rep hk2 0 row ⟨fun _ => 0, fun _ => false, fun _ => .empty, fun _ => .tuple #[], fun _ => Hl.none⟩ h
  have hs : ∀ (a b : List Ck) (n : Nat), ckNormsW n (a ++ b) q → ckNormsW (n + ckLen a) b q := by
    intro a
    induction a with
    | nil => intro b n h; simpa [ckLen] using h
    | cons k a ih =>
      intro b n h
      have := ih b (n + k.len) h.2
      rw [show n + k.len + ckLen a = n + ckLen (k :: a) by simp [ckLen]; omega] at this
      exact this
  have hn0 := hn
  have hn : ckNormsW 0 (hk2.take 53 ++ (.sl :: hk2.drop 54)) q := hn
  have hs := (hs (hk2.take 53) (.sl :: hk2.drop 54) 0 hn).1
  exact ⟨⟨q.i, q.b, q.s, q.v, fun k => if k = 130 then R else Hl.none⟩, e.symm, rfl, hn0, hs.2.1, hs.2.2.1, hs.2.2.2⟩
open Classical in
noncomputable def formS (f : FuncId) : Sx.Spec where
  fn := f
  own := []
  rd := [10053]
  res := [.one .bool]
  pre := fun xs Hs Rs => ∃ row R h, xs = [.agg row.toArray] ∧ Rs = [R] ∧ IsHd R row h
  post := fun xs Hs Rs v Hs' F => ∃ row R h, xs = [.agg row.toArray] ∧ Rs = [R] ∧ IsHd R row h ∧ v = .bool (decide h.Form)
noncomputable def frmΓ : List Sx.Spec := [sortS 46, sortS 20, padS, buckS, placedS]
theorem frmΓ_ok : ∀ t ∈ frmΓ, t.OK Try.prog := fun t ht => by
  simp only [frmΓ, List.mem_cons, List.mem_nil_iff, or_false] at ht
  rcases ht with rfl | rfl | rfl | rfl | rfl
  · exact kSortS_ok
  · exact rSortS_ok
  · exact padS_ok
  · exact buckS_ok
  · exact placedS_ok
theorem fg0 : frmΓ[0]? = some (sortS 46) := rfl
theorem fg1 : frmΓ[1]? = some (sortS 20) := rfl
theorem fg2 : frmΓ[2]? = some padS := rfl
theorem fg3 : frmΓ[3]? = some buckS := rfl
theorem fg4 : frmΓ[4]? = some placedS := rfl
theorem fr0 (f : FuncId) : (sortS f).res = [.one .bool] := rfl
theorem fr2 : padS.res = [.one .bool] := rfl
theorem fr3 : buckS.res = [.one (.int .i64)] := rfl
theorem fr4 : placedS.res = [.one .bool] := rfl
def eFormNd : Nd := .ext (.alloc 131) (.and (.pre (.call 4 132 [.sv (.agg (ckCVs 0 hk2))] [] [])) (.ext (.call 4 132 [.sv (.agg (ckCVs 0 hk2))] [] []) (.and (.imp (.bvar 132) (.and (.e (.le (.lit 0) (.var 55))) (.and (.imp (.not (.lt (.lit 8) (.var 55))) (.and (.pre (.call 0 133 [.sv (.one (.sl (.var 53) (.var 54) (.var 55) (.var 56)))] [] [.ro 130 [.var 53] false])) (.ext (.call 0 133 [.sv (.one (.sl (.var 53) (.var 54) (.var 55) (.var 56)))] [] [.ro 130 [.var 53] false]) (.and (.imp (.bvar 133) (.and (.pre (.call 2 134 [.sv (.one (.int .i64 (.wrap .i64 (.sub (.var 95) (.lit 16)))))] [] [])) (.ext (.call 2 134 [.sv (.one (.int .i64 (.wrap .i64 (.sub (.var 95) (.lit 16)))))] [] []) (.and (.imp (.not (.bvar 134)) (.post [.ro 130 [.var 53] false, .dead] (.sv (.one (.bool .ff))))) (.imp (.bvar 134) (.and (.imp (.bvar 35) (.and (.imp (.eq (.var 55) (.lit 0)) (.post [.ro 130 [.var 53] false, .dead] (.sv (.one (.bool (.and (.eq (.var 37) (.lit 0)) (.and (.eq (.var 38) (.lit 0)) (.and (.eq (.var 39) (.lit 0)) (.and (.eq (.var 40) (.lit 0)) (.and (.eq (.var 41) (.lit 0)) (.and (.eq (.var 42) (.lit 0)) (.and (.eq (.var 43) (.lit 0)) (.and (.eq (.var 44) (.lit 0)) (.and (.eq (.var 45) (.lit 0)) (.and (.eq (.var 46) (.lit 0)) (.and (.eq (.var 47) (.lit 0)) (.and (.eq (.var 48) (.lit 0)) (.and (.eq (.var 49) (.lit 0)) (.and (.eq (.var 50) (.lit 0)) (.and (.eq (.var 51) (.lit 0)) (.eq (.var 52) (.lit 0)))))))))))))))))))))) (.imp (.not (.eq (.var 55) (.lit 0))) (.post [.ro 130 [.var 53] false, .dead] (.sv (.one (.bool .ff))))))) (.imp (.not (.bvar 35)) (.post [.ro 130 [.var 53] false, .dead] (.sv (.one (.bool .tt))))))))))) (.imp (.not (.bvar 133)) (.post [.ro 130 [.var 53] false, .dead] (.sv (.one (.bool .ff))))))))) (.imp (.lt (.lit 8) (.var 55)) (.post [.ro 130 [.var 53] false, .dead] (.sv (.one (.bool .ff)))))))) (.imp (.not (.bvar 132)) (.post [.ro 130 [.var 53] false, .dead] (.sv (.one (.bool .ff))))))))
noncomputable def eFormW : Walk Try.prog frmΓ 25 where
  Λ := noLoops
  args := (cpSVs 0 [.agg hk2]).map .sv
  mem := [.ro 130 [.var 53] false]
  nv := 131
  nd := eFormNd
  ok := by kernel_rfl
theorem hkl : 0 + ckLen hk2 ≤ 128 := Nat.le_of_ble_eq_true (by kernel_rfl)
theorem rd_len {R : Hl} {p : Option Addr} {n c : Nat} {ks : List Kd} {T : List (List Int)} (h : RdRows R (.slice p n c) ks (T.map bys)) : n = T.length := by
  obtain ⟨x, y, c', e, _⟩ := h
  simp only [Value.slice.injEq, List.length_map] at e
  exact e.2.1
theorem wrap_in (z : Int) : i64in (IntKind.i64.wrap z) := by
  unfold i64in
  rw [IntKind.wrap_i64]; omega
theorem pad_wrap {z : Int} (h : i64in z) : isPad (IntKind.i64.wrap (z - 16)) ↔ isPad (z - 16) := by
  unfold i64in at h
  unfold isPad
  rw [IntKind.wrap_i64]; omega
theorem isPad_in {z : Int} (h : isPad (z - 16)) : 80 ≤ z ∧ z ≤ 2064 := by
  unfold isPad at h; omega
theorem buck_pad {z : Int} (h1 : 80 ≤ z) (h2 : z ≤ 2064) : buck (IntKind.i64.wrap (z - 17)) = IntKind.i64.wrap (z - 16) ↔ isPad (z - 16) := by
  rw [IntWalk.i64_in (z - 17) (by omega), IntWalk.i64_in (z - 16) (by omega)]
  unfold buck isPad
  repeat' split
  all_goals omega
theorem as_int (P : Prop) : ∃ z : Int, P ↔ z = 1 := by
  by_cases h : P
  · exact ⟨1, fun _ => rfl, fun _ => h⟩
  · exact ⟨0, fun x => absurd x h, fun x => absurd x (by decide)⟩
open Classical in
theorem form_post {f : FuncId} {row : List Value} {R : Hl} {h : Hd} (hx : IsHd R row h) {q : Env} {e : E} (hb : bev q e = true ↔ h.Form) {mem : Mem} : postOf (formS f) [.agg row.toArray] [] [R] q mem (.sv (.one (.bool e))) := by
  intro _
  exact ⟨[], [], rfl, rfl, ⟨⟨fun _ => 0, fun _ => bev q e, fun _ => .empty, fun _ => .tuple #[], fun _ => Hl.none⟩, rfl, trivial, trivial⟩, _, R, h, rfl, rfl, hx, boolV hb⟩
open Classical in
theorem sort_post {f : FuncId} {u v : Value} {R : Hl} {T : List (List Int)} {Hs K : List Hl} {F : Hl} (h : RdRows R u tkd (T.map bys)) (hp : (sortS f).post [u] Hs [R] v K F) : v = .bool (decide (SortedT T)) := by
  obtain ⟨u', R', T', e1, e2, hR, hv⟩ := hp
  simp only [List.cons.injEq, and_true] at e1 e2
  subst e1 e2
  rw [bys_mapInj (h.uniq hR)]; exact hv
open Classical in
theorem eFormS_ok : (formS 25).OK Try.prog := by
  refine Spec.of_fn (Γ := frmΓ) frmΓ_ok ?_
  rintro xs Hs Rs hl1 hl2 ⟨row, R, h, rfl, rfl, hx⟩
  have e0 : Hs = [] := List.length_eq_zero_iff.1 hl1
  subst e0
  obtain ⟨ρ, rfl, w130, hnw, n54, n55, n56⟩ := hdr_env (R := R) hx.ok
  refine ⟨eFormW, ρ, fun _ _ => True, fun _ _ => 0, ?_, ⟨?_, ?_, ?_, ?_⟩, (fun _ h => nomatch h), ?_⟩
  · rfl
  · intro r hr ho; simp [eFormW] at hr; subst hr; cases ho
  · intro r hr ho; simp [eFormW] at hr; subst hr; exact ⟨R, by simp, by show (ρ.h 130).le R; rw [w130]; exact Hl.le_refl _⟩
  · simp [eFormW]
  · intro r hr; simp [eFormW] at hr; subst hr; trivial
  · show Nd.holds _ _ _ eFormNd
    unfold eFormNd
    simp only [Nd.holds, X.pre, X.rel, X.n, Src.ok, Src.len, Src.vals, true_and, and_true, if_true, Nat.mul_one, Nat.add_zero, Nat.reduceAdd, List.length_cons, List.length_nil, bT_tt, bT_ff, bT_bvar, bT_not, bT_and, bT_or, bT_ite, bT_lt, bT_le, bT_eq, bT_beq, bT_seq, bT_hB, bT_his, bT_hby, bT_hism, bT_hks, iev_lit, iev_var, iev_add, iev_sub, iev_mul, iev_wrap, iev_ite, iev_hI, iev_hP, iev_hmlen, sev_ite, sev_slit, sev_sof, sev_svar, TV.ev, SV.ev, CV.ev, List.map_cons, List.map_nil, Res.hl, cpTV, Cp.sv, Ck.cv, cpSVs, Cp.len, Ck.len, newHs_zero, newHs_one, roots_ne, fg0, fr0, fg2, fr2, fg4, fr4, sc2]
    have hF := hx.form
    have hT := hx.tok
    have hT : RdRows R (.slice (slP (ρ.i 53) (ρ.i 54)) (ρ.i 55).toNat (ρ.i 56).toNat) tkd (h.t.map bys) := hT
    have hlen : (ρ.i 55).toNat = h.t.length := rd_len hT
    have h92 : cI (hrow ρ 0) 92 = ρ.i 95 := rfl
    have h35 : cB (hrow ρ 0) 35 = ρ.b 35 := rfl
    have h92in : i64in (ρ.i 95) := hx.rng (.int .i64 (ρ.i 95)) (List.mem_of_getElem? (i := 92) rfl)
    rw [h92, h35] at hF
    intro q1 g1 _
    have hr1 : hrow q1 0 = hrow ρ 0 := hrow_ag (g1.mono (by omega))
    refine ⟨⟨⟨q1, ⟨ckNormsW_agree (g1.mono (by omega)) hk2 0 hkl hnw, trivial⟩, rfl⟩, trivial⟩, fun q2 g2 ⟨F2, hp2, _⟩ => ?_⟩
    have hp2 : Value.bool (q2.b 132) = .bool (decide (placedP (hrow q1 0))) := hp2
    rw [hr1] at hp2
    simp only [Value.bool.injEq] at hp2
    rw [hp2, decide_eq_true_eq]
    have G2 : Agree 131 ρ q2 := g1.trans (g2.mono (by omega))
    rw [G2.i 55 (by omega), G2.i 53 (by omega), G2.i 54 (by omega), G2.i 56 (by omega), G2.h 130 (by omega), w130]
    have ff : ∀ {q : Env} {mem : Mem}, ¬ h.Form → postOf (formS 25) [.agg (hrow ρ 0).toArray] [] [R] q mem (.sv (.one (.bool .ff))) := fun hf => form_post hx ⟨fun e => (by rw [bev_ff] at e; cases e), fun e => absurd e hf⟩
    refine ⟨fun hpl => ⟨n55, fun h8 => ⟨⟨_, R, h.t, rfl, rfl, hT, hx.byte⟩, fun q3 g3 ⟨F3, hp3, _⟩ => ?_⟩, fun h8 => ff fun hf => ?_⟩, fun hpl => ff fun hf => hpl (hF.1 hf).1⟩
    · have hs := sort_post hT hp3
      have hs : q3.b 133 = decide (SortedT h.t) := by simpa [bev_bvar] using hs
      rw [hs, decide_eq_true_eq]
      have G3 : Agree 131 ρ q3 := G2.trans (g3.mono (by omega))
      rw [G3.i 95 (by omega)]
      refine ⟨fun hso => ⟨⟨⟨envI [IntKind.i64.wrap (ρ.i 95 - 16)] false [], ⟨trivial, trivial⟩, rfl⟩, wrap_in _⟩, fun q4 g4 ⟨F4, hp4, _⟩ => ?_⟩, fun hso => ff fun hf => hso (hF.1 hf).2.2.1⟩
      have hp4 : Value.bool (q4.b 134) = .bool (decide (isPad (IntKind.i64.wrap (ρ.i 95 - 16)))) := hp4
      simp only [Value.bool.injEq] at hp4
      rw [hp4, decide_eq_true_eq, pad_wrap h92in]
      have G4 : Agree 131 ρ q4 := G3.trans (g4.mono (by omega))
      rw [G4.b 35 (by omega), G4.i 55 (by omega)]
      refine ⟨fun hpd => ff fun hf => hpd (hF.1 hf).2.2.2.1, fun hpd => ⟨fun hc => ⟨fun hz => form_post hx ?_, fun hz => ff fun hf => ?_⟩, fun hc => form_post hx ?_⟩⟩
      · have eZ : bev q4 (.and (.eq (.var 37) (.lit 0)) (.and (.eq (.var 38) (.lit 0)) (.and (.eq (.var 39) (.lit 0)) (.and (.eq (.var 40) (.lit 0)) (.and (.eq (.var 41) (.lit 0)) (.and (.eq (.var 42) (.lit 0)) (.and (.eq (.var 43) (.lit 0)) (.and (.eq (.var 44) (.lit 0)) (.and (.eq (.var 45) (.lit 0)) (.and (.eq (.var 46) (.lit 0)) (.and (.eq (.var 47) (.lit 0)) (.and (.eq (.var 48) (.lit 0)) (.and (.eq (.var 49) (.lit 0)) (.and (.eq (.var 50) (.lit 0)) (.and (.eq (.var 51) (.lit 0)) (.eq (.var 52) (.lit 0))))))))))))))))) = true ↔ zer (cI (hrow q4 0)) 37 16 := by
          simp only [bT_and, bT_eq, iev_var, iev_lit]
          exact Iff.rfl
        rw [eZ, hrow_ag (G4.mono (by omega)), hF]
        refine ⟨fun hzz => ⟨hpl, by omega, hso, hpd, fun _ => ⟨List.length_eq_zero_iff.1 (by omega), hzz⟩⟩, fun hf => (hf.2.2.2.2 hc).2⟩
      · have := ((hF.1 hf).2.2.2.2 hc).1
        rw [this] at hlen
        exact hz (by simpa using (show ρ.i 55 = 0 by simp at hlen; omega))
      · rw [bev_tt, hF]
        exact ⟨fun _ => ⟨hpl, by omega, hso, hpd, fun h => absurd h hc⟩, fun _ => rfl⟩
    · have := (hF.1 hf).2.1
      omega
end Go.Proofs.Ytkdllpialpfopaa
