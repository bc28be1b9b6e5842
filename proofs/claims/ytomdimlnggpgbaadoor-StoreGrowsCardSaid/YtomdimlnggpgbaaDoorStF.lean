/- Layer 9: errors as contracts: errors.Is, wrapped, number. No condition. -/
import Derived.Test.YtomdimlnggpgbaaDoorStE
import Derived.Test.YtomdimlnggpgbaaDoorStD
set_option linter.unusedSimpArgs false
set_option linter.unusedVariables false
set_option linter.constructorNameAsVariable false
namespace Go.Proofs.YtomdimlnggpgbaaDoor
open Go Go.Sx Go.Pk Go.RowKit

def gLost : Nat := 0
def gFull : Nat := 1
def gSpent : Nat := 2
def isG (g : Nat) : Prop := g = gLost ∨ g = gFull ∨ g = gSpent
def gv (a : Nat → Addr) (g : Nat) : Value := .iface 206 (.pointer (some (a g)))
/-- The three errors from below: each at a place of its own. -/
structure Gl (R : Hl) (a : Nat → Addr) : Prop where
  cell : ∀ g, isG g → R.cell g 0 = some (gv a g)
  blk : ∀ g, isG g → ∃ c t, R (a g).block = some (.cells c t (0, 0))
  ne : ∀ g h, isG g → isG h → g ≠ h → a g ≠ a h
theorem Gl.same {R : Hl} {a b : Nat → Addr} (h : Gl R a) (k : Gl R b) {g : Nat} (hg : isG g) : a g = b g := by
  have := (h.cell g hg).symm.trans (k.cell g hg)
  simpa [gv] using this
def gi (c : Int) : Nat := if c = 4 then gFull else if c = 14 then gSpent else gLost
theorem gi_is (c : Int) : isG (gi c) := by
  unfold gi isG
  split
  · exact Or.inr (Or.inl rfl)
  · split
    · exact Or.inr (Or.inr rfl)
    · exact Or.inl rfl
/-- An error, as the number that it was wrapped of. -/
def ErrAt (a : Nat → Addr) (v : Value) (c : Int) : Prop := (c = 0 ∧ v = .nilIface) ∨ (c ≠ 0 ∧ ∃ s : ByteArray, v = .iface 134 (.agg #[.string s, gv a (gi c)]))
theorem ErrAt.same {R : Hl} {a b : Nat → Addr} (h : Gl R a) (k : Gl R b) {v : Value} {c d : Int} (hc : ErrAt a v c) (hd : ErrAt b v d) : (c = 0 ↔ d = 0) ∧ (c ≠ 0 → gi c = gi d) := by
  rcases hc with ⟨hc, e⟩ | ⟨hc, s, e⟩ <;> rcases hd with ⟨hd, e'⟩ | ⟨hd, s', e'⟩ <;> rw [e] at e'
  · exact ⟨⟨fun _ => hd, fun _ => hc⟩, fun h => absurd hc h⟩
  · cases e'
  · cases e'
  · refine ⟨⟨fun h => absurd h hc, fun h => absurd h hd⟩, fun _ => ?_⟩
    simp only [Value.iface.injEq, Value.agg.injEq, Array.mk.injEq, List.cons.injEq, Value.string.injEq, gv, Value.pointer.injEq, Option.some.injEq, true_and, and_true] at e'
    rw [← h.same k (gi_is d)] at e'
    exact Classical.byContradiction fun hne => h.ne _ _ (gi_is c) (gi_is d) hne e'.2
open Classical in
noncomputable def isS : Sx.Spec where
  fn := 73
  own := []
  rd := [2000000]
  res := [.one .bool]
  pre := fun xs Hs Rs => ∃ e t R a c g, xs = [e, t] ∧ Rs = [R] ∧ Gl R a ∧ ErrAt a e c ∧ isG g ∧ t = gv a g
  post := fun xs Hs Rs v Hs' F => ∃ e t R, xs = [e, t] ∧ Rs = [R] ∧ ∀ a c g, Gl R a → ErrAt a e c → isG g → t = gv a g → v = .bool (decide (c ≠ 0 ∧ gi c = g))
theorem isS_ok : isS.OK Tryd.prog := by
  refine calls_spec rfl fun w xs Rs hs ⟨e, t, R, a, c, g, e1, e2, hG, hE, hg, ht⟩ => ?_
  subst e1 e2 ht
  refine ⟨.bool (decide (c ≠ 0 ∧ gi c = g)), ⟨⟨fun _ => 0, fun _ => decide (c ≠ 0 ∧ gi c = g), fun _ => .empty, fun _ => .tuple #[], fun _ => Hl.none⟩, rfl, trivial, trivial⟩, ?_, _, _, R, rfl, rfl, fun a' c' g' hG' hE' hg' ht' => ?_⟩
  · have hR := hs R (by simp)
    obtain ⟨cg, tg, hbg⟩ := hG.blk g hg
    rcases hE with ⟨rfl, rfl⟩ | ⟨hc, s, rfl⟩
    · refine (is_nil (a g) w).mono fun e w' ⟨h1, h2⟩ => ⟨(by rw [h1]; simp), (by rw [h2]; exact Below.refl _ _)⟩
    · by_cases hgc : gi c = g
      · subst hgc
        refine (is_wrap_same s (a (gi c)) w).mono fun e w' ⟨h1, h2⟩ => ⟨(by rw [h1]; simp [hc]), h2⟩
      · obtain ⟨cc, tc, hbc⟩ := hG.blk (gi c) (gi_is c)
        refine (is_wrap_other s (a g) (a (gi c)) cc cg tc tg w (hG.ne _ _ (gi_is c) hg hgc) (hR _ _ hbc) (hR _ _ hbg)).mono fun e w' ⟨h1, h2⟩ => ⟨(by rw [h1]; simp [hgc]), h2⟩
  · obtain ⟨s1, s2⟩ := hE.same hG hG' hE'
    have hgg : g = g' := by
      have : a g = a' g' := by simpa [gv] using ht'
      rw [← hG.same hG' hg'] at this
      exact Classical.byContradiction fun hne => hG.ne _ _ hg hg' hne this
    subst hgg
    congr 1
    by_cases h0 : c = 0
    · have := s1.1 h0
      simp [h0, this]
    · have h0' : c' ≠ 0 := fun h => h0 (s1.2 h)
      rw [← s2 h0]
      simp [h0, h0']
/-! ### wrapped -/
def wrappedS : Sx.Spec where
  fn := 36
  own := []
  rd := [2000000]
  res := [.one .any]
  pre := fun xs Hs Rs => ∃ (s : ByteArray) (c : Int) (R : Hl) (a : Nat → Addr), xs = [.string s, .int .i64 c] ∧ Rs = [R] ∧ Gl R a
  post := fun xs Hs Rs v Hs' F => ∃ (s : ByteArray) (c : Int) (R : Hl), xs = [.string s, .int .i64 c] ∧ Rs = [R] ∧ ∀ a, Gl R a → ErrAt a v c
set_option maxRecDepth 20000 in
theorem wrapped_walk (s : ByteArray) (c : Int) (a : Nat → Addr) (w : World) (h0 : w.cell? ⟨gLost, 0, none⟩ = some (gv a gLost)) (h1 : w.cell? ⟨gFull, 0, none⟩ = some (gv a gFull)) (h2 : w.cell? ⟨gSpent, 0, none⟩ = some (gv a gSpent)) :
    Calls Tryd.prog 36 #[.string s, .int .i64 c] w fun e w' => e = .returned (if c = 0 then .nilIface else .iface 134 (.agg #[.string s, if c = 4 then gv a gFull else if c = 14 then gv a gSpent else gv a gLost])) ∧ w' = w := by
  unfold gv gLost at h0
  unfold gv gFull at h1
  unfold gv gSpent at h2
  by_cases c0 : c = 0
  · subst c0
    go_enter Tryd.func36, Tryd.ntmps36
    go_wp2
    go_ret
    exact ⟨rfl, rfl⟩
  · rw [if_neg c0]
    by_cases c4 : c = 4
    · subst c4
      go_enter Tryd.func36, Tryd.ntmps36
      go_wp2
      go_ret
      exact ⟨rfl, rfl⟩
    · rw [if_neg c4]
      by_cases c14 : c = 14
      · subst c14
        go_enter Tryd.func36, Tryd.ntmps36
        go_wp2
        go_ret
        exact ⟨rfl, rfl⟩
      · rw [if_neg c14]
        go_enter Tryd.func36, Tryd.ntmps36
        go_wp2
        go_ret
        exact ⟨rfl, rfl⟩
def wrapV (a : Nat → Addr) (s : ByteArray) (c : Int) : Value := if c = 0 then .nilIface else .iface 134 (.agg #[.string s, if c = 4 then gv a gFull else if c = 14 then gv a gSpent else gv a gLost])
theorem wrappedS_ok : wrappedS.OK Tryd.prog := by
  refine calls_spec rfl fun w xs Rs hs ⟨s, c, R, a, e1, e2, hG⟩ => ?_
  subst e1 e2
  have hR := hs R (by simp)
  have hv := wrapped_walk s c a w (Hl.sub_cell hR (hG.cell _ (Or.inl rfl))) (Hl.sub_cell hR (hG.cell _ (Or.inr (Or.inl rfl)))) (Hl.sub_cell hR (hG.cell _ (Or.inr (Or.inr rfl))))
  refine ⟨wrapV a s c, ⟨⟨fun _ => 0, fun _ => false, fun _ => .empty, fun _ => wrapV a s c, fun _ => Hl.none⟩, rfl, trivial, trivial⟩, hv.mono fun e w' ⟨h1, h2⟩ => ⟨h1, (by rw [h2]; exact Below.refl _ _)⟩, s, c, R, rfl, rfl, fun a' hG' => ?_⟩
  unfold wrapV
  by_cases c0 : c = 0
  · rw [if_pos c0]; exact Or.inl ⟨c0, rfl⟩
  · rw [if_neg c0]
    refine Or.inr ⟨c0, s, ?_⟩
    congr 3
    unfold gi
    split
    · unfold gv; rw [hG.same hG' (Or.inr (Or.inl rfl))]
    · split
      · unfold gv; rw [hG.same hG' (Or.inr (Or.inr rfl))]
      · unfold gv; rw [hG.same hG' (Or.inl rfl)]
/-! ### number -/
def numC (c : Int) : Int := if c = 0 then 0 else if gi c = gFull then 4 else if gi c = gSpent then 14 else 5
def numberE : Sx.Spec where
  fn := 74
  own := []
  rd := [2000000]
  res := [.one (.int .i64)]
  pre := fun xs Hs Rs => ∃ e R a c, xs = [e] ∧ Rs = [R] ∧ Gl R a ∧ ErrAt a e c
  post := fun xs Hs Rs v Hs' F => ∃ e R, xs = [e] ∧ Rs = [R] ∧ ∀ a c, Gl R a → ErrAt a e c → v = .int .i64 (numC c)
noncomputable def nuΓ : List Sx.Spec := [isS]
theorem nuΓ_ok : ∀ t ∈ nuΓ, t.OK Tryd.prog := fun t ht => by
  simp only [nuΓ, List.mem_cons, List.mem_nil_iff, or_false] at ht
  rw [ht]; exact isS_ok
def numbNd : Nd := .and (.e (.le (.vint 0) (.lit 1))) (.and (.imp (.eq (.vint 0) (.lit 0)) (.post [.ro 1 [.lit 0, .lit 1, .lit 2] false] (.sv (.one (.int .i64 (.lit 0)))))) (.imp (.not (.eq (.vint 0) (.lit 0))) (.and (.e (.his 1 (.lit 1) (.lit 0) 0 .any)) (.and (.pre (.call 0 2 [.sv (.one (.vr 0)), .sv (.one (.hv 1 (.lit 1) (.lit 0) 0))] [] [.ro 1 [.lit 0, .lit 1, .lit 2] false])) (.ext (.call 0 2 [.sv (.one (.vr 0)), .sv (.one (.hv 1 (.lit 1) (.lit 0) 0))] [] [.ro 1 [.lit 0, .lit 1, .lit 2] false]) (.and (.imp (.bvar 2) (.post [.ro 1 [.lit 0, .lit 1, .lit 2] false] (.sv (.one (.int .i64 (.lit 4)))))) (.imp (.not (.bvar 2)) (.and (.e (.his 1 (.lit 2) (.lit 0) 0 .any)) (.and (.pre (.call 0 3 [.sv (.one (.vr 0)), .sv (.one (.hv 1 (.lit 2) (.lit 0) 0))] [] [.ro 1 [.lit 0, .lit 1, .lit 2] false])) (.ext (.call 0 3 [.sv (.one (.vr 0)), .sv (.one (.hv 1 (.lit 2) (.lit 0) 0))] [] [.ro 1 [.lit 0, .lit 1, .lit 2] false]) (.and (.imp (.bvar 3) (.post [.ro 1 [.lit 0, .lit 1, .lit 2] false] (.sv (.one (.int .i64 (.lit 14)))))) (.imp (.not (.bvar 3)) (.post [.ro 1 [.lit 0, .lit 1, .lit 2] false] (.sv (.one (.int .i64 (.lit 5)))))))))))))))))
noncomputable def numbW : Walk Tryd.prog nuΓ numberE.fn where
  Λ := noLoops
  args := [.sv (.one (.vr 0))]
  mem := [.ro 1 [.lit 0, .lit 1, .lit 2] false]
  nv := 2
  nd := numbNd
  ok := by kernel_rfl
theorem nug0 : nuΓ[0]? = some isS := rfl
theorem nur0 : isS.res = [.one .bool] := rfl
theorem numC_same {R : Hl} {a b : Nat → Addr} (h : Gl R a) (k : Gl R b) {v : Value} {c d : Int} (hc : ErrAt a v c) (hd : ErrAt b v d) : numC c = numC d := by
  obtain ⟨s1, s2⟩ := hc.same h k hd
  unfold numC
  by_cases h0 : c = 0
  · rw [if_pos h0, if_pos (s1.1 h0)]
  · rw [if_neg h0, if_neg (fun h => h0 (s1.2 h)), s2 h0]
theorem errCode {a : Nat → Addr} {v : Value} {c : Int} (h : ErrAt a v c) : vcode v ≤ 1 ∧ (vcode v = 0 ↔ c = 0) := by
  rcases h with ⟨hc, rfl⟩ | ⟨hc, s, rfl⟩
  · exact ⟨(by decide), fun _ => hc, fun _ => rfl⟩
  · exact ⟨Int.le_refl 1, fun h => absurd (show (1 : Int) = 0 from h) (by omega), fun h => absurd h hc⟩
open Classical in
theorem is_res {e : Value} {R : Hl} {a : Nat → Addr} {c : Int} {g n : Nat} {q : Env} {K Hs : List Hl} {F : Hl} (hG : Gl R a) (hE : ErrAt a e c) (hg : isG g) (hp : isS.post [e, gv a g] Hs [R] (.bool (bev q (.bvar n))) K F) : (q.b n = true) = (c ≠ 0 ∧ gi c = g) := by
  obtain ⟨e', t', R', e1, e2, h⟩ := hp
  simp only [List.cons.injEq, and_true] at e1 e2
  obtain ⟨rfl, rfl⟩ := e1
  subst e2
  have := h a c g hG hE hg rfl
  rw [bev_bvar] at this
  simp only [Value.bool.injEq] at this
  rw [this]; simp
theorem numberE_ok : numberE.OK Tryd.prog := by
  refine Spec.of_fn (Γ := nuΓ) nuΓ_ok ?_
  rintro xs Hs Rs hl1 hl2 ⟨e, R, a, c, rfl, rfl, hG, hE⟩
  have e0 : Hs = [] := List.length_eq_zero_iff.1 hl1
  subst e0
  refine ⟨numbW, ⟨fun _ => 0, fun _ => false, fun _ => .empty, fun _ => e, fun _ => R⟩, fun _ _ => True, fun _ _ => 0, rfl, ⟨?_, ?_, ?_, ?_⟩, (fun _ h => nomatch h), ?_⟩
  · intro r hr ho; simp [numbW] at hr; subst hr; cases ho
  · intro r hr ho; simp [numbW] at hr; subst hr; exact ⟨R, by simp, Hl.le_refl _⟩
  · simp [numbW]
  · intro r hr; simp [numbW] at hr; subst hr; trivial
  · show Nd.holds _ _ _ numbNd
    generalize hρ : (⟨fun _ => 0, fun _ => false, fun _ => .empty, fun _ => e, fun _ => R⟩ : Env) = ρ
    have v0 : ρ.v 0 = e := by rw [← hρ]
    have w1 : ρ.h 1 = R := by rw [← hρ]
    clear hρ
    have out : ∀ {q : Env} {z : Int} {mem : Mem}, z = numC c → postOf numberE [e] [] [R] q mem (.sv (.one (.int .i64 (.lit z)))) := by
      rintro q z mem rfl _
      exact ⟨[], [], rfl, rfl, ⟨⟨fun _ => numC c, fun _ => false, fun _ => .empty, fun _ => .tuple #[], fun _ => Hl.none⟩, rfl, trivial, trivial⟩, e, R, rfl, rfl, fun a' c' hG' hE' => by
        rw [← numC_same hG hG' hE hE']; rfl⟩
    have hcode := errCode hE
    unfold numbNd
    simp only [Nd.holds, X.pre, X.rel, X.n, Src.ok, Src.len, Src.vals, true_and, and_true, if_true, Nat.mul_one, Nat.add_zero, Nat.reduceAdd, List.length_cons, List.length_nil, bT_tt, bT_ff, bT_bvar, bT_not, bT_and, bT_or, bT_ite, bT_lt, bT_le, bT_eq, bT_beq, bT_seq, bT_hB, bT_his, bT_hby, bT_hism, bT_hks, iev_lit, iev_var, iev_add, iev_sub, iev_mul, iev_wrap, iev_ite, iev_hI, iev_hP, iev_hmlen, sev_ite, sev_slit, sev_sof, sev_svar, TV.ev, SV.ev, CV.ev, List.map_cons, List.map_nil, Res.hl, cpTV, Cp.sv, Ck.cv, cpSVs, Cp.len, Ck.len, newHs_zero, newHs_one, roots_ne, nug0, nur0, iev_vint]
    rw [v0, w1]
    have cF : R.cell (Int.toNat 1) (Int.toNat 0) = some (gv a gFull) := hG.cell gFull (Or.inr (Or.inl rfl))
    have cS : R.cell (Int.toNat 2) (Int.toNat 0) = some (gv a gSpent) := hG.cell gSpent (Or.inr (Or.inr rfl))
    rw [cF]
    refine ⟨hcode.1, fun h0 => out (by unfold numC; rw [if_pos (hcode.2.1 h0)]), fun h0 => ⟨rfl, ⟨e, _, R, a, c, gFull, rfl, rfl, hG, hE, Or.inr (Or.inl rfl), rfl⟩, fun q1 g1 ⟨F1, hp1, _⟩ => ?_⟩⟩
    have hc0 : c ≠ 0 := fun h => h0 (hcode.2.2 h)
    have r1 := is_res hG hE (Or.inr (Or.inl rfl)) hp1
    rw [r1, g1.h 1 (by omega), g1.v 0 (by omega), v0, w1, cS]
    refine ⟨fun h => out (by unfold numC; rw [if_neg hc0, if_pos h.2]), fun h => ⟨rfl, ⟨e, _, R, a, c, gSpent, rfl, rfl, hG, hE, Or.inr (Or.inr rfl), rfl⟩, fun q2 g2 ⟨F2, hp2, _⟩ => ?_⟩⟩
    have hn1 : gi c ≠ gFull := fun e => h ⟨hc0, e⟩
    have r2 := is_res hG hE (Or.inr (Or.inr rfl)) hp2
    rw [r2]
    exact ⟨fun h => out (by unfold numC; rw [if_neg hc0, if_neg hn1, if_pos h.2]), fun h => out (by unfold numC; rw [if_neg hc0, if_neg hn1, if_neg fun e => h ⟨hc0, e⟩])⟩
end Go.Proofs.YtomdimlnggpgbaaDoor
