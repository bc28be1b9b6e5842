/- Layers 12 and 22: slices.Equal of tokens, entry.Same, as contracts. Condition: the tokens are bytes. -/
import Derived.Test.YtkdllpialpfopaaHdJ
set_option linter.unusedSimpArgs false
set_option linter.unusedVariables false
set_option linter.constructorNameAsVariable false
namespace Go.Proofs.Ytkdllpialpfopaa
open Go Go.Sx Go.Pk

/-- Two rows of numbers are the same, some from one on. -/
def eqs (f g : Nat → Int) : Nat → Nat → Prop
  | _, 0 => True
  | n, 1 => f n = g n
  | n, k + 2 => f n = g n ∧ eqs f g (n + 1) (k + 1)
theorem eqs_iff {f g : Nat → Int} : ∀ (k n : Nat), eqs f g n k ↔ ∀ j, j < k → f (n + j) = g (n + j)
  | 0, n => ⟨fun _ j h => (by omega), fun _ => trivial⟩
  | 1, n => ⟨fun h j hj => (by cases j with
      | zero => exact h
      | succ j => omega), fun h => h 0 (by omega)⟩
  | k + 2, n => by
    show (f n = g n ∧ eqs f g (n + 1) (k + 1)) ↔ _
    rw [eqs_iff (k + 1) (n + 1)]
    constructor
    · rintro ⟨h0, h⟩ j hj
      cases j with
      | zero => exact h0
      | succ j => have := h j (by omega); rwa [show n + 1 + j = n + (j + 1) by omega] at this
    · exact fun h => ⟨h 0 (by omega), fun j hj => by have := h (j + 1) (by omega); rwa [show n + (j + 1) = n + 1 + j by omega] at this⟩
theorem eqs_tok {f g : Nat → Int} {s t : List Int} (hs : s.length = 16) (ht : t.length = 16) (hf : ∀ j, j < 16 → f j = s.getD j 0) (hg : ∀ j, j < 16 → g j = t.getD j 0) : eqs f g 0 16 ↔ s = t := by
  rw [eqs_iff]
  constructor
  · intro h
    apply List.ext_getElem?
    intro j
    by_cases hj : j < 16
    · have e := h j hj
      rw [Nat.zero_add, hf j hj, hg j hj, List.getD_eq_getElem?_getD, List.getD_eq_getElem?_getD, List.getElem?_eq_getElem (by omega), List.getElem?_eq_getElem (by omega)] at e
      rw [List.getElem?_eq_getElem (by omega), List.getElem?_eq_getElem (by omega)]
      exact congrArg some e
    · rw [List.getElem?_eq_none (by omega), List.getElem?_eq_none (by omega)]
  · rintro rfl j hj
    rw [Nat.zero_add, hf j hj, hg j hj]
open Classical in
noncomputable def equalS : Sx.Spec where
  fn := 63
  own := []
  rd := [0, 1]
  res := [.one .bool]
  pre := fun xs Hs Rs => ∃ (u v : Value) (R1 R2 : Hl) (S T : List (List Int)), xs = [u, v] ∧ Rs = [R1, R2] ∧ RdRows R1 u tkd (S.map bys) ∧ RdRows R2 v tkd (T.map bys) ∧ toksIn S ∧ toksIn T
  post := fun xs Hs Rs w Hs' F => ∃ (u v : Value) (R1 R2 : Hl) (S T : List (List Int)), xs = [u, v] ∧ Rs = [R1, R2] ∧ RdRows R1 u tkd (S.map bys) ∧ RdRows R2 v tkd (T.map bys) ∧ w = .bool (decide (S = T))
def equalNd : Nd := .and (.e (.le (.lit 0) (.var 2))) (.and (.e (.le (.lit 0) (.var 6))) (.and (.imp (.not (.eq (.var 2) (.var 6))) (.post [.ro 8 [.var 0] false, .ro 9 [.var 4] false] (.sv (.one (.bool .ff))))) (.imp (.eq (.var 2) (.var 6)) (.and (.inv 0 [⟨20, 0, .int .i64 (.lit 0)⟩] []) (.havoc 0 0 10 (.and (.imp (.lt (.var 20) (.var 2)) (.and (.e (.le (.lit 0) (.var 0))) (.and (.e (.le (.lit 0) (.var 1))) (.and (.e (.le (.lit 0) (.var 20))) (.and (.e (.hby 8 (.var 0) (.add (.var 1) (.mul (.var 20) (.lit 16))) (.lit 16))) (.and (.e (.le (.lit 0) (.var 4))) (.and (.e (.le (.lit 0) (.var 5))) (.and (.e (.lt (.var 20) (.var 6))) (.and (.e (.hby 9 (.var 4) (.add (.var 5) (.mul (.var 20) (.lit 16))) (.lit 16))) (.and (.imp (.not (.and (.eq (.hI 8 (.var 0) (.add (.var 1) (.mul (.var 20) (.lit 16))) 0) (.hI 9 (.var 4) (.add (.var 5) (.mul (.var 20) (.lit 16))) 0)) (.and (.eq (.hI 8 (.var 0) (.add (.var 1) (.mul (.var 20) (.lit 16))) 1) (.hI 9 (.var 4) (.add (.var 5) (.mul (.var 20) (.lit 16))) 1)) (.and (.eq (.hI 8 (.var 0) (.add (.var 1) (.mul (.var 20) (.lit 16))) 2) (.hI 9 (.var 4) (.add (.var 5) (.mul (.var 20) (.lit 16))) 2)) (.and (.eq (.hI 8 (.var 0) (.add (.var 1) (.mul (.var 20) (.lit 16))) 3) (.hI 9 (.var 4) (.add (.var 5) (.mul (.var 20) (.lit 16))) 3)) (.and (.eq (.hI 8 (.var 0) (.add (.var 1) (.mul (.var 20) (.lit 16))) 4) (.hI 9 (.var 4) (.add (.var 5) (.mul (.var 20) (.lit 16))) 4)) (.and (.eq (.hI 8 (.var 0) (.add (.var 1) (.mul (.var 20) (.lit 16))) 5) (.hI 9 (.var 4) (.add (.var 5) (.mul (.var 20) (.lit 16))) 5)) (.and (.eq (.hI 8 (.var 0) (.add (.var 1) (.mul (.var 20) (.lit 16))) 6) (.hI 9 (.var 4) (.add (.var 5) (.mul (.var 20) (.lit 16))) 6)) (.and (.eq (.hI 8 (.var 0) (.add (.var 1) (.mul (.var 20) (.lit 16))) 7) (.hI 9 (.var 4) (.add (.var 5) (.mul (.var 20) (.lit 16))) 7)) (.and (.eq (.hI 8 (.var 0) (.add (.var 1) (.mul (.var 20) (.lit 16))) 8) (.hI 9 (.var 4) (.add (.var 5) (.mul (.var 20) (.lit 16))) 8)) (.and (.eq (.hI 8 (.var 0) (.add (.var 1) (.mul (.var 20) (.lit 16))) 9) (.hI 9 (.var 4) (.add (.var 5) (.mul (.var 20) (.lit 16))) 9)) (.and (.eq (.hI 8 (.var 0) (.add (.var 1) (.mul (.var 20) (.lit 16))) 10) (.hI 9 (.var 4) (.add (.var 5) (.mul (.var 20) (.lit 16))) 10)) (.and (.eq (.hI 8 (.var 0) (.add (.var 1) (.mul (.var 20) (.lit 16))) 11) (.hI 9 (.var 4) (.add (.var 5) (.mul (.var 20) (.lit 16))) 11)) (.and (.eq (.hI 8 (.var 0) (.add (.var 1) (.mul (.var 20) (.lit 16))) 12) (.hI 9 (.var 4) (.add (.var 5) (.mul (.var 20) (.lit 16))) 12)) (.and (.eq (.hI 8 (.var 0) (.add (.var 1) (.mul (.var 20) (.lit 16))) 13) (.hI 9 (.var 4) (.add (.var 5) (.mul (.var 20) (.lit 16))) 13)) (.and (.eq (.hI 8 (.var 0) (.add (.var 1) (.mul (.var 20) (.lit 16))) 14) (.hI 9 (.var 4) (.add (.var 5) (.mul (.var 20) (.lit 16))) 14)) (.eq (.hI 8 (.var 0) (.add (.var 1) (.mul (.var 20) (.lit 16))) 15) (.hI 9 (.var 4) (.add (.var 5) (.mul (.var 20) (.lit 16))) 15)))))))))))))))))) (.post [.ro 8 [.var 0] false, .ro 9 [.var 4] false] (.sv (.one (.bool .ff))))) (.imp (.and (.eq (.hI 8 (.var 0) (.add (.var 1) (.mul (.var 20) (.lit 16))) 0) (.hI 9 (.var 4) (.add (.var 5) (.mul (.var 20) (.lit 16))) 0)) (.and (.eq (.hI 8 (.var 0) (.add (.var 1) (.mul (.var 20) (.lit 16))) 1) (.hI 9 (.var 4) (.add (.var 5) (.mul (.var 20) (.lit 16))) 1)) (.and (.eq (.hI 8 (.var 0) (.add (.var 1) (.mul (.var 20) (.lit 16))) 2) (.hI 9 (.var 4) (.add (.var 5) (.mul (.var 20) (.lit 16))) 2)) (.and (.eq (.hI 8 (.var 0) (.add (.var 1) (.mul (.var 20) (.lit 16))) 3) (.hI 9 (.var 4) (.add (.var 5) (.mul (.var 20) (.lit 16))) 3)) (.and (.eq (.hI 8 (.var 0) (.add (.var 1) (.mul (.var 20) (.lit 16))) 4) (.hI 9 (.var 4) (.add (.var 5) (.mul (.var 20) (.lit 16))) 4)) (.and (.eq (.hI 8 (.var 0) (.add (.var 1) (.mul (.var 20) (.lit 16))) 5) (.hI 9 (.var 4) (.add (.var 5) (.mul (.var 20) (.lit 16))) 5)) (.and (.eq (.hI 8 (.var 0) (.add (.var 1) (.mul (.var 20) (.lit 16))) 6) (.hI 9 (.var 4) (.add (.var 5) (.mul (.var 20) (.lit 16))) 6)) (.and (.eq (.hI 8 (.var 0) (.add (.var 1) (.mul (.var 20) (.lit 16))) 7) (.hI 9 (.var 4) (.add (.var 5) (.mul (.var 20) (.lit 16))) 7)) (.and (.eq (.hI 8 (.var 0) (.add (.var 1) (.mul (.var 20) (.lit 16))) 8) (.hI 9 (.var 4) (.add (.var 5) (.mul (.var 20) (.lit 16))) 8)) (.and (.eq (.hI 8 (.var 0) (.add (.var 1) (.mul (.var 20) (.lit 16))) 9) (.hI 9 (.var 4) (.add (.var 5) (.mul (.var 20) (.lit 16))) 9)) (.and (.eq (.hI 8 (.var 0) (.add (.var 1) (.mul (.var 20) (.lit 16))) 10) (.hI 9 (.var 4) (.add (.var 5) (.mul (.var 20) (.lit 16))) 10)) (.and (.eq (.hI 8 (.var 0) (.add (.var 1) (.mul (.var 20) (.lit 16))) 11) (.hI 9 (.var 4) (.add (.var 5) (.mul (.var 20) (.lit 16))) 11)) (.and (.eq (.hI 8 (.var 0) (.add (.var 1) (.mul (.var 20) (.lit 16))) 12) (.hI 9 (.var 4) (.add (.var 5) (.mul (.var 20) (.lit 16))) 12)) (.and (.eq (.hI 8 (.var 0) (.add (.var 1) (.mul (.var 20) (.lit 16))) 13) (.hI 9 (.var 4) (.add (.var 5) (.mul (.var 20) (.lit 16))) 13)) (.and (.eq (.hI 8 (.var 0) (.add (.var 1) (.mul (.var 20) (.lit 16))) 14) (.hI 9 (.var 4) (.add (.var 5) (.mul (.var 20) (.lit 16))) 14)) (.eq (.hI 8 (.var 0) (.add (.var 1) (.mul (.var 20) (.lit 16))) 15) (.hI 9 (.var 4) (.add (.var 5) (.mul (.var 20) (.lit 16))) 15))))))))))))))))) (.back 0 0 [⟨20, 0, .int .i64 (.wrap .i64 (.add (.var 20) (.lit 1)))⟩] [])))))))))))) (.imp (.not (.lt (.var 20) (.var 2))) (.post [.ro 8 [.var 0] false, .ro 9 [.var 4] false] (.sv (.one (.bool .tt)))))))))))
def equalW : Walk Try.prog [] 63 where
  Λ := fun p => if lp0 p then some ⟨0, [(13, TI .i64 (.var 20))], [], 22⟩ else none
  args := [.sv (.one (.sl (.var 0) (.var 1) (.var 2) (.var 3))), .sv (.one (.sl (.var 4) (.var 5) (.var 6) (.var 7)))]
  mem := [.ro 8 [.var 0] false, .ro 9 [.var 4] false]
  nv := 10
  nd := equalNd
  ok := by kernel_rfl
/-- A token's cells. -/
theorem tok_cellsAt {R : Hl} {x y : Int} {T : List (List Int)} (hy : 0 ≤ y) (hc : ∀ (i : Nat) row, (T.map bys)[i]? = some row → rowOK row tkd ∧ ∀ j u, row[j]? = some u → R.cell x.toNat (y.toNat + i * tkd.length + j) = some u) {i : Nat} {t : List Int} (ht : T[i]? = some t) (hl : t.length = 16) :
    cellBytes R x.toNat (y + (i : Int) * 16).toNat 16 = true ∧ ∀ j, j < 16 → valI (R.cell x.toNat ((y + (i : Int) * 16).toNat + j)) = t.getD j 0 := by
  have h1 := (hc i (bys t) (by rw [List.getElem?_map, ht]; rfl)).2
  have hlen : tkd.length = 16 := rfl
  rw [hlen] at h1
  have hyi : (y + (i : Int) * 16).toNat = y.toNat + i * 16 := by omega
  have c : ∀ j, j < 16 → R.cell x.toNat (y.toNat + i * 16 + j) = some (.int .u8 (t.getD j 0)) := fun j hj => by
    rw [h1 j (.int .u8 (t[j])) (by unfold bys; rw [List.getElem?_map, List.getElem?_eq_getElem (by omega)]; rfl), List.getD_eq_getElem?_getD, List.getElem?_eq_getElem (by omega)]; rfl
  rw [hyi]
  constructor
  · unfold cellBytes
    rw [List.all_eq_true]
    intro j hj
    rw [c j (List.mem_range.1 hj)]; rfl
  · intro j hj
    rw [c j hj]; rfl
theorem eqs16 (f g : Nat → Int) : (f 0 = g 0 ∧ f 1 = g 1 ∧ f 2 = g 2 ∧ f 3 = g 3 ∧ f 4 = g 4 ∧ f 5 = g 5 ∧ f 6 = g 6 ∧ f 7 = g 7 ∧ f 8 = g 8 ∧ f 9 = g 9 ∧ f 10 = g 10 ∧ f 11 = g 11 ∧ f 12 = g 12 ∧ f 13 = g 13 ∧ f 14 = g 14 ∧ f 15 = g 15) ↔ eqs f g 0 16 := Iff.rfl
theorem equalS_ok : equalS.OK Try.prog := by
  refine Spec.of_fn (Γ := []) (fun _ h => by cases h) ?_
  rintro xs Hs Rs hl1 hl2 ⟨u, v, R1, R2, S, T, rfl, rfl, hR, hQ, hS, hT⟩
  have e0 : Hs = [] := List.length_eq_zero_iff.1 hl1
  subst e0
  obtain ⟨x, y, c, rfl, hy, hrows⟩ := id hR
  obtain ⟨x', y', c', rfl, hy', hrows'⟩ := id hQ
  refine ⟨equalW, envI [x, y, S.length, c, x', y', T.length, c'] false [Hl.none, Hl.none, Hl.none, Hl.none, Hl.none, Hl.none, Hl.none, Hl.none, R1, R2], fun _ q => ∃ i : Nat, q.i 20 = i ∧ i ≤ S.length ∧ ∀ k, k < i → S[k]? = T[k]?, fun _ q => (S.length - q.i 20).toNat, ?_, ⟨?_, ?_, ?_, ?_⟩, (fun _ h => nomatch h), ?_⟩
  · rw [List.length_map, List.length_map]
    show [Value.slice (slP x y) ((S.length : Int)).toNat ((c : Int)).toNat, Value.slice (slP x' y') ((T.length : Int)).toNat ((c' : Int)).toNat] = _
    rw [Int.toNat_natCast, Int.toNat_natCast, Int.toNat_natCast, Int.toNat_natCast]
  · intro r hr ho; simp [equalW] at hr; rcases hr with rfl | rfl <;> cases ho
  · intro r hr ho; simp [equalW] at hr
    rcases hr with rfl | rfl
    · exact ⟨R1, by simp, Hl.le_refl _⟩
    · exact ⟨R2, by simp, Hl.le_refl _⟩
  · simp [equalW, Res.own]
  · intro r hr; simp [equalW] at hr; rcases hr with rfl | rfl <;> trivial
  · show Nd.holds _ _ _ equalNd
    generalize hρ : envI [x, y, S.length, c, x', y', T.length, c'] false [Hl.none, Hl.none, Hl.none, Hl.none, Hl.none, Hl.none, Hl.none, Hl.none, R1, R2] = ρ
    have v0 : ρ.i 0 = x := by rw [← hρ]; rfl
    have v1 : ρ.i 1 = y := by rw [← hρ]; rfl
    have v2 : ρ.i 2 = S.length := by rw [← hρ]; rfl
    have v4 : ρ.i 4 = x' := by rw [← hρ]; rfl
    have v5 : ρ.i 5 = y' := by rw [← hρ]; rfl
    have v6 : ρ.i 6 = T.length := by rw [← hρ]; rfl
    have w8 : ρ.h 8 = R1 := by rw [← hρ]; rfl
    have w9 : ρ.h 9 = R2 := by rw [← hρ]; rfl
    clear hρ
    have out : ∀ {q : Env} {e : E} {mem : Mem}, (bev q e = true ↔ S = T) → postOf equalS [.slice (slP x y) (S.map bys).length c, .slice (slP x' y') (T.map bys).length c'] [] [R1, R2] q mem (.sv (.one (.bool e))) := by
      intro q e mem he _
      exact ⟨[], [], rfl, rfl, ⟨⟨fun _ => 0, fun _ => bev q e, fun _ => .empty, fun _ => .tuple #[], fun _ => Hl.none⟩, rfl, trivial, trivial⟩, _, _, R1, R2, S, T, rfl, rfl, hR, hQ, boolV he⟩
    unfold equalNd
    simp only [Nd.holds, X.pre, X.rel, X.n, Src.ok, Src.len, Src.vals, true_and, and_true, if_true, Nat.mul_one, Nat.add_zero, Nat.reduceAdd, List.length_cons, List.length_nil, bT_tt, bT_ff, bT_bvar, bT_not, bT_and, bT_or, bT_ite, bT_lt, bT_le, bT_eq, bT_beq, bT_seq, bT_hB, bT_his, bT_hby, bT_hism, bT_hks, iev_lit, iev_var, iev_add, iev_sub, iev_mul, iev_wrap, iev_ite, iev_hI, iev_hP, iev_hmlen, sev_ite, sev_slit, sev_sof, sev_svar, TV.ev, SV.ev, CV.ev, List.map_cons, List.map_nil, Res.hl, cpTV, Cp.sv, Ck.cv, cpSVs, Cp.len, Ck.len, newHs_zero, newHs_one, roots_ne]
    rw [v2, v6]
    refine ⟨by omega, by omega, fun hne => out ⟨fun e => (by rw [bev_ff] at e; cases e), fun e => absurd (by rw [e]) hne⟩, fun hl => ⟨⟨0, rfl, Nat.zero_le _, fun k hk => by omega⟩, fun q g ⟨i, ei, hi, hk⟩ => ?_⟩⟩
    rw [g.i 2 (by omega), v2, ei, g.i 0 (by omega), v0, g.i 1 (by omega), v1, g.h 8 (by omega), w8, g.i 4 (by omega), v4, g.i 5 (by omega), v5, g.h 9 (by omega), w9, g.i 6 (by omega), v6]
    have hSl := hS.1
    have ew : IntKind.i64.wrap (q.i 20 + 1) = ((i + 1 : Nat) : Int) := by rw [ei, IntWalk.i64_in _ (by omega)]; omega
    refine ⟨fun h => ?_, fun h => out ⟨fun _ => ?_, fun _ => bev_tt q⟩⟩
    · have hiS : i < S.length := by omega
      have hiT : i < T.length := by omega
      rcases hrows with hn | ⟨hx, hc⟩
      · rw [List.map_eq_nil_iff] at hn; rw [hn] at hiS; cases hiS
      rcases hrows' with hn | ⟨hx', hc'⟩
      · rw [List.map_eq_nil_iff] at hn; rw [hn] at hiT; cases hiT
      have hs : S[i]? = some S[i] := List.getElem?_eq_getElem hiS
      have ht : T[i]? = some T[i] := List.getElem?_eq_getElem hiT
      have m1 := (hS.2 _ (List.mem_of_getElem? hs)).1
      have m2 := (hT.2 _ (List.mem_of_getElem? ht)).1
      obtain ⟨b1, c1⟩ := tok_cellsAt hy hc hs m1
      obtain ⟨b2, c2⟩ := tok_cellsAt hy' hc' ht m2
      have E := (eqs16 (fun j => valI (R1.cell x.toNat ((y + (i : Int) * 16).toNat + j))) (fun j => valI (R2.cell x'.toNat ((y' + (i : Int) * 16).toNat + j)))).trans (eqs_tok m1 m2 c1 c2)
      refine ⟨hx, hy, by omega, b1, hx', hy', by omega, b2, fun hn => out ⟨fun e => (by rw [bev_ff] at e; cases e), fun e => absurd (E.2 ?_) hn⟩, fun he => ⟨⟨i + 1, ew, by omega, fun k hk' => ?_⟩, ?_⟩⟩
      · have := hs.symm.trans ((congrArg (fun l => l[i]?) e).trans ht)
        exact Option.some.inj this
      · rcases Nat.lt_or_ge k i with h1 | h1
        · exact hk k h1
        · obtain rfl : k = i := by omega
          rw [hs, ht, E.1 he]
      · show ((S.length : Int) - IntKind.i64.wrap (q.i 20 + 1)).toNat < _
        rw [ew]; omega
    · apply List.ext_getElem?
      intro k
      by_cases hkS : k < S.length
      · exact hk k (by omega)
      · rw [List.getElem?_eq_none (by omega), List.getElem?_eq_none (by omega)]
/-! ### Same -/
open Classical in
noncomputable def sameS : Sx.Spec where
  fn := 48
  own := []
  rd := [10053, 10153]
  res := [.one .bool]
  pre := fun xs Hs Rs => ∃ r1 r2 R1 R2 h1 h2, xs = [.agg r1.toArray, .agg r2.toArray] ∧ Rs = [R1, R2] ∧ IsHd R1 r1 h1 ∧ IsHd R2 r2 h2
  post := fun xs Hs Rs v Hs' F => ∃ r1 r2 R1 R2 h1 h2, xs = [.agg r1.toArray, .agg r2.toArray] ∧ Rs = [R1, R2] ∧ IsHd R1 r1 h1 ∧ IsHd R2 r2 h2 ∧ v = .bool (decide (h1 = h2))
def sameNd : Nd := .ext (.alloc 302) (.ext (.alloc 303) (.and (.pre (.call 2 304 [.sv (.one (.sl (.var 53) (.var 54) (.var 55) (.var 56))), .sv (.one (.sl (.var 181) (.var 182) (.var 183) (.var 184)))] [] [.ro 300 [.var 53] false, .ro 301 [.var 181] false])) (.ext (.call 2 304 [.sv (.one (.sl (.var 53) (.var 54) (.var 55) (.var 56))), .sv (.one (.sl (.var 181) (.var 182) (.var 183) (.var 184)))] [] [.ro 300 [.var 53] false, .ro 301 [.var 181] false]) (.and (.imp (.not (.bvar 304)) (.post [.ro 300 [.var 53] false, .ro 301 [.var 181] false, .dead, .dead] (.sv (.one (.bool .ff))))) (.imp (.bvar 304) (.and (.imp (.eq (.var 0) (.var 128)) (.and (.imp (.eq (.var 1) (.var 129)) (.and (.imp (.and (.eq (.var 2) (.var 130)) (.and (.eq (.var 3) (.var 131)) (.and (.eq (.var 4) (.var 132)) (.and (.eq (.var 5) (.var 133)) (.and (.eq (.var 6) (.var 134)) (.and (.eq (.var 7) (.var 135)) (.and (.eq (.var 8) (.var 136)) (.and (.eq (.var 9) (.var 137)) (.and (.eq (.var 10) (.var 138)) (.and (.eq (.var 11) (.var 139)) (.and (.eq (.var 12) (.var 140)) (.and (.eq (.var 13) (.var 141)) (.and (.eq (.var 14) (.var 142)) (.and (.eq (.var 15) (.var 143)) (.and (.eq (.var 16) (.var 144)) (.and (.eq (.var 17) (.var 145)) (.and (.eq (.var 18) (.var 146)) (.and (.eq (.var 19) (.var 147)) (.and (.eq (.var 20) (.var 148)) (.and (.eq (.var 21) (.var 149)) (.and (.eq (.var 22) (.var 150)) (.and (.eq (.var 23) (.var 151)) (.and (.eq (.var 24) (.var 152)) (.and (.eq (.var 25) (.var 153)) (.and (.eq (.var 26) (.var 154)) (.and (.eq (.var 27) (.var 155)) (.and (.eq (.var 28) (.var 156)) (.and (.eq (.var 29) (.var 157)) (.and (.eq (.var 30) (.var 158)) (.and (.eq (.var 31) (.var 159)) (.and (.eq (.var 32) (.var 160)) (.eq (.var 33) (.var 161))))))))))))))))))))))))))))))))) (.and (.imp (.eq (.var 34) (.var 162)) (.and (.imp (.beq (.bvar 35) (.bvar 163)) (.and (.imp (.eq (.var 36) (.var 164)) (.and (.imp (.and (.eq (.var 37) (.var 165)) (.and (.eq (.var 38) (.var 166)) (.and (.eq (.var 39) (.var 167)) (.and (.eq (.var 40) (.var 168)) (.and (.eq (.var 41) (.var 169)) (.and (.eq (.var 42) (.var 170)) (.and (.eq (.var 43) (.var 171)) (.and (.eq (.var 44) (.var 172)) (.and (.eq (.var 45) (.var 173)) (.and (.eq (.var 46) (.var 174)) (.and (.eq (.var 47) (.var 175)) (.and (.eq (.var 48) (.var 176)) (.and (.eq (.var 49) (.var 177)) (.and (.eq (.var 50) (.var 178)) (.and (.eq (.var 51) (.var 179)) (.eq (.var 52) (.var 180))))))))))))))))) (.and (.imp (.and (.eq (.var 57) (.var 185)) (.and (.eq (.var 58) (.var 186)) (.and (.eq (.var 59) (.var 187)) (.and (.eq (.var 60) (.var 188)) (.and (.eq (.var 61) (.var 189)) (.eq (.var 62) (.var 190))))))) (.and (.imp (.and (.eq (.var 63) (.var 191)) (.and (.eq (.var 64) (.var 192)) (.and (.eq (.var 65) (.var 193)) (.and (.eq (.var 66) (.var 194)) (.and (.eq (.var 67) (.var 195)) (.and (.eq (.var 68) (.var 196)) (.and (.eq (.var 69) (.var 197)) (.and (.eq (.var 70) (.var 198)) (.and (.eq (.var 71) (.var 199)) (.and (.eq (.var 72) (.var 200)) (.and (.eq (.var 73) (.var 201)) (.and (.eq (.var 74) (.var 202)) (.and (.eq (.var 75) (.var 203)) (.and (.eq (.var 76) (.var 204)) (.and (.eq (.var 77) (.var 205)) (.and (.eq (.var 78) (.var 206)) (.and (.eq (.var 79) (.var 207)) (.and (.eq (.var 80) (.var 208)) (.and (.eq (.var 81) (.var 209)) (.and (.eq (.var 82) (.var 210)) (.and (.eq (.var 83) (.var 211)) (.and (.eq (.var 84) (.var 212)) (.and (.eq (.var 85) (.var 213)) (.and (.eq (.var 86) (.var 214)) (.and (.eq (.var 87) (.var 215)) (.and (.eq (.var 88) (.var 216)) (.and (.eq (.var 89) (.var 217)) (.and (.eq (.var 90) (.var 218)) (.and (.eq (.var 91) (.var 219)) (.and (.eq (.var 92) (.var 220)) (.and (.eq (.var 93) (.var 221)) (.eq (.var 94) (.var 222))))))))))))))))))))))))))))))))) (.and (.imp (.eq (.var 95) (.var 223)) (.post [.ro 300 [.var 53] false, .ro 301 [.var 181] false, .dead, .dead] (.sv (.one (.bool (.and (.eq (.var 96) (.var 224)) (.and (.eq (.var 97) (.var 225)) (.and (.eq (.var 98) (.var 226)) (.and (.eq (.var 99) (.var 227)) (.and (.eq (.var 100) (.var 228)) (.and (.eq (.var 101) (.var 229)) (.and (.eq (.var 102) (.var 230)) (.and (.eq (.var 103) (.var 231)) (.and (.eq (.var 104) (.var 232)) (.and (.eq (.var 105) (.var 233)) (.and (.eq (.var 106) (.var 234)) (.and (.eq (.var 107) (.var 235)) (.and (.eq (.var 108) (.var 236)) (.and (.eq (.var 109) (.var 237)) (.and (.eq (.var 110) (.var 238)) (.and (.eq (.var 111) (.var 239)) (.and (.eq (.var 112) (.var 240)) (.and (.eq (.var 113) (.var 241)) (.and (.eq (.var 114) (.var 242)) (.and (.eq (.var 115) (.var 243)) (.and (.eq (.var 116) (.var 244)) (.and (.eq (.var 117) (.var 245)) (.and (.eq (.var 118) (.var 246)) (.and (.eq (.var 119) (.var 247)) (.and (.eq (.var 120) (.var 248)) (.and (.eq (.var 121) (.var 249)) (.and (.eq (.var 122) (.var 250)) (.and (.eq (.var 123) (.var 251)) (.and (.eq (.var 124) (.var 252)) (.and (.eq (.var 125) (.var 253)) (.and (.eq (.var 126) (.var 254)) (.eq (.var 127) (.var 255)))))))))))))))))))))))))))))))))))))) (.imp (.not (.eq (.var 95) (.var 223))) (.post [.ro 300 [.var 53] false, .ro 301 [.var 181] false, .dead, .dead] (.sv (.one (.bool .ff))))))) (.imp (.not (.and (.eq (.var 63) (.var 191)) (.and (.eq (.var 64) (.var 192)) (.and (.eq (.var 65) (.var 193)) (.and (.eq (.var 66) (.var 194)) (.and (.eq (.var 67) (.var 195)) (.and (.eq (.var 68) (.var 196)) (.and (.eq (.var 69) (.var 197)) (.and (.eq (.var 70) (.var 198)) (.and (.eq (.var 71) (.var 199)) (.and (.eq (.var 72) (.var 200)) (.and (.eq (.var 73) (.var 201)) (.and (.eq (.var 74) (.var 202)) (.and (.eq (.var 75) (.var 203)) (.and (.eq (.var 76) (.var 204)) (.and (.eq (.var 77) (.var 205)) (.and (.eq (.var 78) (.var 206)) (.and (.eq (.var 79) (.var 207)) (.and (.eq (.var 80) (.var 208)) (.and (.eq (.var 81) (.var 209)) (.and (.eq (.var 82) (.var 210)) (.and (.eq (.var 83) (.var 211)) (.and (.eq (.var 84) (.var 212)) (.and (.eq (.var 85) (.var 213)) (.and (.eq (.var 86) (.var 214)) (.and (.eq (.var 87) (.var 215)) (.and (.eq (.var 88) (.var 216)) (.and (.eq (.var 89) (.var 217)) (.and (.eq (.var 90) (.var 218)) (.and (.eq (.var 91) (.var 219)) (.and (.eq (.var 92) (.var 220)) (.and (.eq (.var 93) (.var 221)) (.eq (.var 94) (.var 222)))))))))))))))))))))))))))))))))) (.post [.ro 300 [.var 53] false, .ro 301 [.var 181] false, .dead, .dead] (.sv (.one (.bool .ff))))))) (.imp (.not (.and (.eq (.var 57) (.var 185)) (.and (.eq (.var 58) (.var 186)) (.and (.eq (.var 59) (.var 187)) (.and (.eq (.var 60) (.var 188)) (.and (.eq (.var 61) (.var 189)) (.eq (.var 62) (.var 190)))))))) (.post [.ro 300 [.var 53] false, .ro 301 [.var 181] false, .dead, .dead] (.sv (.one (.bool .ff))))))) (.imp (.not (.and (.eq (.var 37) (.var 165)) (.and (.eq (.var 38) (.var 166)) (.and (.eq (.var 39) (.var 167)) (.and (.eq (.var 40) (.var 168)) (.and (.eq (.var 41) (.var 169)) (.and (.eq (.var 42) (.var 170)) (.and (.eq (.var 43) (.var 171)) (.and (.eq (.var 44) (.var 172)) (.and (.eq (.var 45) (.var 173)) (.and (.eq (.var 46) (.var 174)) (.and (.eq (.var 47) (.var 175)) (.and (.eq (.var 48) (.var 176)) (.and (.eq (.var 49) (.var 177)) (.and (.eq (.var 50) (.var 178)) (.and (.eq (.var 51) (.var 179)) (.eq (.var 52) (.var 180)))))))))))))))))) (.post [.ro 300 [.var 53] false, .ro 301 [.var 181] false, .dead, .dead] (.sv (.one (.bool .ff))))))) (.imp (.not (.eq (.var 36) (.var 164))) (.post [.ro 300 [.var 53] false, .ro 301 [.var 181] false, .dead, .dead] (.sv (.one (.bool .ff))))))) (.imp (.not (.beq (.bvar 35) (.bvar 163))) (.post [.ro 300 [.var 53] false, .ro 301 [.var 181] false, .dead, .dead] (.sv (.one (.bool .ff))))))) (.imp (.not (.eq (.var 34) (.var 162))) (.post [.ro 300 [.var 53] false, .ro 301 [.var 181] false, .dead, .dead] (.sv (.one (.bool .ff))))))) (.imp (.not (.and (.eq (.var 2) (.var 130)) (.and (.eq (.var 3) (.var 131)) (.and (.eq (.var 4) (.var 132)) (.and (.eq (.var 5) (.var 133)) (.and (.eq (.var 6) (.var 134)) (.and (.eq (.var 7) (.var 135)) (.and (.eq (.var 8) (.var 136)) (.and (.eq (.var 9) (.var 137)) (.and (.eq (.var 10) (.var 138)) (.and (.eq (.var 11) (.var 139)) (.and (.eq (.var 12) (.var 140)) (.and (.eq (.var 13) (.var 141)) (.and (.eq (.var 14) (.var 142)) (.and (.eq (.var 15) (.var 143)) (.and (.eq (.var 16) (.var 144)) (.and (.eq (.var 17) (.var 145)) (.and (.eq (.var 18) (.var 146)) (.and (.eq (.var 19) (.var 147)) (.and (.eq (.var 20) (.var 148)) (.and (.eq (.var 21) (.var 149)) (.and (.eq (.var 22) (.var 150)) (.and (.eq (.var 23) (.var 151)) (.and (.eq (.var 24) (.var 152)) (.and (.eq (.var 25) (.var 153)) (.and (.eq (.var 26) (.var 154)) (.and (.eq (.var 27) (.var 155)) (.and (.eq (.var 28) (.var 156)) (.and (.eq (.var 29) (.var 157)) (.and (.eq (.var 30) (.var 158)) (.and (.eq (.var 31) (.var 159)) (.and (.eq (.var 32) (.var 160)) (.eq (.var 33) (.var 161)))))))))))))))))))))))))))))))))) (.post [.ro 300 [.var 53] false, .ro 301 [.var 181] false, .dead, .dead] (.sv (.one (.bool .ff))))))) (.imp (.not (.eq (.var 1) (.var 129))) (.post [.ro 300 [.var 53] false, .ro 301 [.var 181] false, .dead, .dead] (.sv (.one (.bool .ff))))))) (.imp (.not (.eq (.var 0) (.var 128))) (.post [.ro 300 [.var 53] false, .ro 301 [.var 181] false, .dead, .dead] (.sv (.one (.bool .ff)))))))))))
noncomputable def sameW : Walk Try.prog [formS 25, sortS 46, equalS] 48 where
  Λ := noLoops
  args := (cpSVs 0 [.agg hk2, .agg hk2]).map .sv
  mem := [.ro 300 [.var 53] false, .ro 301 [.var 181] false]
  nv := 302
  nd := sameNd
  ok := by kernel_rfl
theorem rowV_eq {q : Env} : (hrow q 0).set 53 (.bool false) = (hrow q 128).set 53 (.bool false) ↔ q.i 0 = q.i 128 ∧ q.i 1 = q.i 129 ∧ eqs q.i (fun k => q.i (k + 128)) 2 32 ∧ q.i 34 = q.i 162 ∧ (q.b 35 = q.b 163) ∧ q.i 36 = q.i 164 ∧ eqs q.i (fun k => q.i (k + 128)) 37 16 ∧ eqs q.i (fun k => q.i (k + 128)) 57 6 ∧ eqs q.i (fun k => q.i (k + 128)) 63 32 ∧ q.i 95 = q.i 223 ∧ eqs q.i (fun k => q.i (k + 128)) 96 32 := by
  simp only [hrow, hk2, List.replicate, List.cons_append, List.nil_append, ckCVs, Ck.cv, Ck.len, i64, List.map_cons, List.map_nil, List.set_cons_succ, List.set_cons_zero, CV.ev, iev_var, bev_bvar, Nat.zero_add, Nat.add_assoc, Nat.reduceAdd, List.cons.injEq, Value.int.injEq, Value.bool.injEq, true_and, and_true, eqs, and_assoc]
theorem two_env {R1 R2 : Hl} {r1 r2 : List Value} (h1 : rowOK r1 hkd) (h2 : rowOK r2 hkd) : ∃ q : Env, r1 = hrow q 0 ∧ r2 = hrow q 128 ∧ q.h 300 = R1 ∧ q.h 301 = R2 := by
  obtain ⟨q1, _, _, e1⟩ := row_rep hk2 0 r1 ⟨fun _ => 0, fun _ => false, fun _ => .empty, fun _ => .tuple #[], fun _ => Hl.none⟩ h1
  obtain ⟨q2, g2, _, e2⟩ := row_rep hk2 128 r2 q1 h2
  have e1' : hrow q2 0 = r1 := (hrow_ag g2).trans e1
  exact ⟨⟨q2.i, q2.b, q2.s, q2.v, fun k => if k = 300 then R1 else if k = 301 then R2 else Hl.none⟩, e1'.symm, e2.symm, rfl, rfl⟩
theorem hd_eq {R1 R2 : Hl} {r1 r2 : List Value} {h1 h2 : Hd} (x : IsHd R1 r1 h1) (y : IsHd R2 r2 h2) : h1 = h2 ↔ h1.t = h2.t ∧ r1.set 53 (.bool false) = r2.set 53 (.bool false) := by
  rw [← x.core, ← y.core]
  cases h1; cases h2
  simp [and_comm]
theorem aq2 : [formS 25, sortS 46, equalS][2]? = some equalS := rfl
theorem aqr2 : equalS.res = [.one .bool] := rfl
theorem equal_post {S T : List (List Int)} {u v w : Value} {R1 R2 : Hl} {Hs K : List Hl} {F : Hl} (h1 : RdRows R1 u tkd (S.map bys)) (h2 : RdRows R2 v tkd (T.map bys)) (hp : equalS.post [u, v] Hs [R1, R2] w K F) : (w = .bool true → S = T) ∧ (S = T → w = .bool true) := by
  obtain ⟨u', v', R1', R2', S', T', e1, e2, hR, hQ, hv⟩ := hp
  simp only [List.cons.injEq, and_true] at e1 e2
  obtain ⟨rfl, rfl⟩ := e1
  obtain ⟨rfl, rfl⟩ := e2
  obtain rfl := bys_mapInj (h1.uniq hR)
  obtain rfl := bys_mapInj (h2.uniq hQ)
  rw [hv]
  simp
theorem sameS_ok : sameS.OK Try.prog := by
  refine Spec.of_fn (Γ := [formS 25, sortS 46, equalS]) (fun t ht => ?_) ?_
  · simp only [List.mem_cons, List.mem_nil_iff, or_false] at ht
    rcases ht with rfl | rfl | rfl
    · exact eFormS_ok
    · exact kSortS_ok
    · exact equalS_ok
  rintro xs Hs Rs hl1 hl2 ⟨r1, r2, R1, R2, h1, h2, rfl, rfl, hx, hy⟩
  have e0 : Hs = [] := List.length_eq_zero_iff.1 hl1
  subst e0
  obtain ⟨ρ, rfl, rfl, w300, w301⟩ := two_env (R1 := R1) (R2 := R2) hx.ok hy.ok
  refine ⟨sameW, ρ, fun _ _ => True, fun _ _ => 0, by kernel_rfl, ⟨?_, ?_, ?_, ?_⟩, (fun _ h => nomatch h), ?_⟩
  · intro r hr ho; simp [sameW] at hr; rcases hr with rfl | rfl <;> cases ho
  · intro r hr ho; simp [sameW] at hr
    rcases hr with rfl | rfl
    · exact ⟨R1, by simp, by show (ρ.h 300).le R1; rw [w300]; exact Hl.le_refl _⟩
    · exact ⟨R2, by simp, by show (ρ.h 301).le R2; rw [w301]; exact Hl.le_refl _⟩
  · simp [sameW, Res.own]
  · intro r hr; simp [sameW] at hr; rcases hr with rfl | rfl <;> trivial
  · show Nd.holds _ _ _ sameNd
    have out : ∀ {q : Env} {e : E} {mem : Mem}, (bev q e = true ↔ h1 = h2) → postOf sameS [.agg (hrow ρ 0).toArray, .agg (hrow ρ 128).toArray] [] [R1, R2] q mem (.sv (.one (.bool e))) := by
      intro q e mem he _
      exact ⟨[], [], rfl, rfl, ⟨⟨fun _ => 0, fun _ => bev q e, fun _ => .empty, fun _ => .tuple #[], fun _ => Hl.none⟩, rfl, trivial, trivial⟩, _, _, R1, R2, h1, h2, rfl, rfl, hx, hy, boolV he⟩
    have ff : ∀ {q : Env} {mem : Mem}, ¬ h1 = h2 → postOf sameS [.agg (hrow ρ 0).toArray, .agg (hrow ρ 128).toArray] [] [R1, R2] q mem (.sv (.one (.bool .ff))) := fun hf => out ⟨fun e => (by rw [bev_ff] at e; cases e), fun e => absurd e hf⟩
    unfold sameNd
    simp only [Nd.holds, X.pre, X.rel, X.n, Src.ok, Src.len, Src.vals, true_and, and_true, if_true, Nat.mul_one, Nat.add_zero, Nat.reduceAdd, List.length_cons, List.length_nil, bT_tt, bT_ff, bT_bvar, bT_not, bT_and, bT_or, bT_ite, bT_lt, bT_le, bT_eq, bT_beq, bT_seq, bT_hB, bT_his, bT_hby, bT_hism, bT_hks, iev_lit, iev_var, iev_add, iev_sub, iev_mul, iev_wrap, iev_ite, iev_hI, iev_hP, iev_hmlen, sev_ite, sev_slit, sev_sof, sev_svar, TV.ev, SV.ev, CV.ev, List.map_cons, List.map_nil, Res.hl, cpTV, Cp.sv, Ck.cv, cpSVs, Cp.len, Ck.len, newHs_zero, newHs_one, roots_ne, aq2, aqr2, sc2]
    have hS : RdRows R1 (.slice (slP (ρ.i 53) (ρ.i 54)) (ρ.i 55).toNat (ρ.i 56).toNat) tkd (h1.t.map bys) := hx.tok
    have hT : RdRows R2 (.slice (slP (ρ.i 181) (ρ.i 182)) (ρ.i 183).toNat (ρ.i 184).toNat) tkd (h2.t.map bys) := hy.tok
    intro q1 g1 _ q2 g2 _
    have G2 : Agree 302 ρ q2 := g1.trans (g2.mono (by omega))
    rw [G2.i 53 (by omega), G2.i 54 (by omega), G2.i 55 (by omega), G2.i 56 (by omega), G2.i 181 (by omega), G2.i 182 (by omega), G2.i 183 (by omega), G2.i 184 (by omega), G2.h 300 (by omega), G2.h 301 (by omega), w300, w301]
    refine ⟨⟨_, _, R1, R2, h1.t, h2.t, rfl, rfl, hS, hT, hx.byte, hy.byte⟩, fun q3 g3 ⟨F, hp, _⟩ => ?_⟩
    have hv := equal_post hS hT hp
    have hv : q3.b 304 = true ↔ h1.t = h2.t := by
      have : (q3.b 304 = true) = (Value.bool (bev q3 (.bvar 304)) = .bool true) := by rw [bev_bvar]; simp
      rw [this]; exact ⟨hv.1, hv.2⟩
    have G3 : Agree 302 ρ q3 := G2.trans (g3.mono (by omega))
    have a0 : hrow q3 0 = hrow ρ 0 := hrow_ag (G3.mono (by omega))
    have a1 : hrow q3 128 = hrow ρ 128 := List.toArray_inj (Value.agg.inj (ev_ag (n := 128) (ks := hk2) G3 (Nat.le_of_ble_eq_true (by kernel_rfl))))
    have E := hd_eq hx hy
    rw [← a0, ← a1, rowV_eq, ← hv] at E
    refine ⟨fun c => ff fun e => c (E.1 e).1, fun hb => ?_⟩
    have eB : (q3.b 35 = true) = (q3.b 163 = true) ↔ q3.b 35 = q3.b 163 := by cases q3.b 35 <;> cases q3.b 163 <;> simp
    rw [eB]
    refine ⟨fun k0 => ⟨fun k1 => ⟨fun k2 => ⟨fun k3 => ⟨fun k4 => ⟨fun k5 => ⟨fun k6 => ⟨fun k7 => ⟨fun k8 => ⟨fun k9 => out ?_, fun c => ff fun e => c (E.1 e).2.2.2.2.2.2.2.2.2.2.1⟩, fun c => ff fun e => c (E.1 e).2.2.2.2.2.2.2.2.2.1⟩, fun c => ff fun e => c (E.1 e).2.2.2.2.2.2.2.2.1⟩, fun c => ff fun e => c (E.1 e).2.2.2.2.2.2.2.1⟩, fun c => ff fun e => c (E.1 e).2.2.2.2.2.2.1⟩, fun c => ff fun e => c (E.1 e).2.2.2.2.2.1⟩, fun c => ff fun e => c (E.1 e).2.2.2.2.1⟩, fun c => ff fun e => c (E.1 e).2.2.2.1⟩, fun c => ff fun e => c (E.1 e).2.2.1⟩, fun c => ff fun e => c (E.1 e).2.1⟩
    have eZ : bev q3 (.and (.eq (.var 96) (.var 224)) (.and (.eq (.var 97) (.var 225)) (.and (.eq (.var 98) (.var 226)) (.and (.eq (.var 99) (.var 227)) (.and (.eq (.var 100) (.var 228)) (.and (.eq (.var 101) (.var 229)) (.and (.eq (.var 102) (.var 230)) (.and (.eq (.var 103) (.var 231)) (.and (.eq (.var 104) (.var 232)) (.and (.eq (.var 105) (.var 233)) (.and (.eq (.var 106) (.var 234)) (.and (.eq (.var 107) (.var 235)) (.and (.eq (.var 108) (.var 236)) (.and (.eq (.var 109) (.var 237)) (.and (.eq (.var 110) (.var 238)) (.and (.eq (.var 111) (.var 239)) (.and (.eq (.var 112) (.var 240)) (.and (.eq (.var 113) (.var 241)) (.and (.eq (.var 114) (.var 242)) (.and (.eq (.var 115) (.var 243)) (.and (.eq (.var 116) (.var 244)) (.and (.eq (.var 117) (.var 245)) (.and (.eq (.var 118) (.var 246)) (.and (.eq (.var 119) (.var 247)) (.and (.eq (.var 120) (.var 248)) (.and (.eq (.var 121) (.var 249)) (.and (.eq (.var 122) (.var 250)) (.and (.eq (.var 123) (.var 251)) (.and (.eq (.var 124) (.var 252)) (.and (.eq (.var 125) (.var 253)) (.and (.eq (.var 126) (.var 254)) (.eq (.var 127) (.var 255))))))))))))))))))))))))))))))))) = true ↔ eqs q3.i (fun k => q3.i (k + 128)) 96 32 := by
      simp only [bT_and, bT_eq, iev_var]
      exact Iff.rfl
    rw [eZ, E]
    exact ⟨fun h => ⟨hb, k0, k1, k2, k3, k4, k5, k6, k7, k8, k9, h⟩, fun h => h.2.2.2.2.2.2.2.2.2.2.2⟩
end Go.Proofs.Ytkdllpialpfopaa
