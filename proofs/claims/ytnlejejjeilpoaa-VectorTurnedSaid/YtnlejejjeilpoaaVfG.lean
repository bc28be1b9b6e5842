/- Vectors: what comes is ready where it stands, and is what is missing: plain facts. -/
import Derived.Test.YtnlejejjeilpoaaVfF
set_option linter.unusedSimpArgs false
set_option linter.unusedVariables false
set_option linter.constructorNameAsVariable false
namespace Go.Proofs.Ytnlejejjeilpoaa.V2
open Go Go.Sx

theorem Comes.fold {hs : List Hd} {v v' : List Int} {out : List Hd} (h : Comes hs v out v') : v' = out.foldl bump v := by
  induction h with
  | nil => rfl
  | snoc h1 h2 ih => rw [List.foldl_append, ← ih]; rfl
theorem Comes.ready {hs : List Hd} {v v' : List Int} {out : List Hd} (h : Comes hs v out v') : ∀ (i : Nat) (x : Hd), out[i]? = some x → readyB ((out.take i).foldl bump v) x = true := by
  induction h with
  | nil => intro i x hx; simp at hx
  | @snoc v1 out rest m h1 h2 ih =>
    intro i x hx
    rcases Nat.lt_or_ge i out.length with hi | hi
    · rw [List.getElem?_append_left hi] at hx
      rw [List.take_append_of_le_length (by omega)]
      exact ih i x hx
    · rw [List.getElem?_append_right hi] at hx
      have e : i = out.length := by
        have := (List.getElem?_eq_some_iff.1 hx).1
        simp at this; omega
      subst e
      rw [Nat.sub_self] at hx
      have hx : minOf m rest = x := by simpa using hx
      rw [List.take_left, ← h1.fold, ← hx]
      exact (pick_ready h2).2
def nw (out : List Hd) (k : Nat) : Nat := (out.filter fun h => decide (h.w = (k : Int) + 1)).length
theorem nw_snoc (out : List Hd) (h : Hd) (k : Nat) : nw (out ++ [h]) k = nw out k + if h.w = (k : Int) + 1 then 1 else 0 := by
  unfold nw
  rw [List.filter_append, List.length_append]
  congr 1
  by_cases e : h.w = (k : Int) + 1
  · rw [if_pos e, List.filter_cons, if_pos (by simpa using e)]; rfl
  · rw [if_neg e, List.filter_cons, if_neg (by simpa using e)]; rfl
theorem Comes.more {hs : List Hd} {v v' : List Int} {out : List Hd} (hv : v.length = 6) (h : Comes hs v out v') : (∀ k, k < 6 → v'.getD k 0 = v.getD k 0 + nw out k) ∧ nw out 0 + nw out 1 + nw out 2 + nw out 3 + nw out 4 + nw out 5 = out.length := by
  induction h with
  | nil => exact ⟨fun k _ => by simp [nw], rfl⟩
  | @snoc v1 out rest m h1 h2 ih =>
    obtain ⟨i1, i2⟩ := ih
    obtain ⟨p1, p2⟩ := pick_ready h2
    generalize minOf m rest = b at p1 p2
    obtain ⟨hf, hw, ha, _⟩ := ready_next p2
    have hv1 := (h1.length hv).1
    refine ⟨fun k hk => ?_, ?_⟩
    · rw [nw_snoc]
      have hb := at_bump hv1 hw ((k : Int) + 1) (by omega)
      unfold at_ at hb ha
      rw [show ((k : Int) + 1 - 1).toNat = k by omega] at hb
      rw [hb]
      by_cases e : (k : Int) + 1 = b.w
      · rw [if_pos e, if_pos e.symm]
        have e2 : (b.w - 1).toNat = k := by omega
        rw [e2, i1 k hk] at ha
        omega
      · rw [if_neg e, if_neg (fun h => e h.symm), i1 k hk]; omega
    · rw [nw_snoc, nw_snoc, nw_snoc, nw_snoc, nw_snoc, nw_snoc, List.length_append, List.length_singleton]
      rcases (by omega : b.w = 1 ∨ b.w = 2 ∨ b.w = 3 ∨ b.w = 4 ∨ b.w = 5 ∨ b.w = 6) with e | e | e | e | e | e <;> rw [e] <;> simp <;> omega
theorem wu {x : Int} (h0 : 0 ≤ x) (h1 : x < 18446744073709551616) : IntKind.u64.wrap x = x := by
  show Int.emod x 18446744073709551616 = x
  exact Int.emod_eq_of_lt h0 h1
theorem moreI_n {a b : Int} {n : Nat} (h : b = a + n) (hn : n ≤ 1000) : moreI a b = n := by
  unfold moreI
  subst h
  by_cases h0 : n = 0
  · subst h0; rw [if_neg (by omega)]; rfl
  · rw [if_pos (by omega), show a + (n : Int) - a = n by omega, wu (by omega) (by omega), if_neg (by omega)]
theorem greatI_n {a b : Int} {n : Nat} (h : b = a + n) : greaterI b a = b := by
  unfold greaterI
  rw [if_neg (by omega)]
theorem Comes.miss {hs : List Hd} {v v' : List Int} {out : List Hd} (hv : v.length = 6) (h : Comes hs v out v') (hl : out.length ≤ 1000) : greatL2 v' v = true ∧ missL v v' = out.length := by
  obtain ⟨m1, m2⟩ := h.more hv
  have hv' := (h.length hv).1
  match v, hv, v', hv' with
  | [a0, a1, a2, a3, a4, a5], _, [b0, b1, b2, b3, b4, b5], _ =>
    have e0 : b0 = a0 + nw out 0 := m1 0 (by omega)
    have e1 : b1 = a1 + nw out 1 := m1 1 (by omega)
    have e2 : b2 = a2 + nw out 2 := m1 2 (by omega)
    have e3 : b3 = a3 + nw out 3 := m1 3 (by omega)
    have e4 : b4 = a4 + nw out 4 := m1 4 (by omega)
    have e5 : b5 = a5 + nw out 5 := m1 5 (by omega)
    constructor
    · unfold greatL2 joinL
      simp only [List.zipWith_cons_cons, List.zipWith_nil_right, greatI_n e0, greatI_n e1, greatI_n e2, greatI_n e3, greatI_n e4, greatI_n e5, decide_true]
    · show IntKind.u64.wrap (IntKind.u64.wrap (IntKind.u64.wrap (IntKind.u64.wrap (IntKind.u64.wrap (IntKind.u64.wrap (0 + moreI a0 b0) + moreI a1 b1) + moreI a2 b2) + moreI a3 b3) + moreI a4 b4) + moreI a5 b5) = _
      rw [moreI_n e0 (by omega), moreI_n e1 (by omega), moreI_n e2 (by omega), moreI_n e3 (by omega), moreI_n e4 (by omega), moreI_n e5 (by omega)]
      rw [wu (x := 0 + _) (by omega) (by omega), wu (x := 0 + _ + _) (by omega) (by omega), wu (x := 0 + _ + _ + _) (by omega) (by omega), wu (x := 0 + _ + _ + _ + _) (by omega) (by omega), wu (x := 0 + _ + _ + _ + _ + _) (by omega) (by omega), wu (by omega) (by omega)]
      omega
theorem order_post {v : List Int} {u r : Value} {R1 R2 F : Hl} {rows : List (List Value)} {hs : List Hd} {Hs K : List Hl} (h1 : RdRows R1 u hkd rows) (h2 : HdAll R2 rows hs) (hp : orderS.post [vecV v, u] Hs [R1, R2] r K F) :
    ∃ s out outRows v', v.length = 6 ∧ r = .tuple #[s, vecV v'] ∧ Comes hs v out v' ∧ hs.filter (readyB v') = [] ∧ RdRows F s hkd outRows ∧ HdAll F outRows out := by
  obtain ⟨v0, u0, S1, S2, rows0, hs0, s, out, outRows, v', e1, e2, hv, hr, ha, e3, hC, hf, hR, hO⟩ := hp
  have e1 : vecV v = vecV v0 ∧ u = u0 := by simpa using e1
  have e2 : R1 = S1 ∧ R2 = S2 := by simpa using e2
  obtain ⟨e2a, e2b⟩ := e2
  obtain ⟨e1a, e1b⟩ := e1
  have e1a := vecV_inj e1a
  subst e2a e2b e1a e1b
  have er := h1.uniq hr
  subst er
  have eh := h2.uniq ha
  subst eh
  exact ⟨s, out, outRows, v', hv, e3, hC, hf, hR, hO⟩
theorem hdAll_of {R : Hl} : ∀ {rows : List (List Value)}, (∀ row ∈ rows, ∃ h, IsHd R row h) → ∃ hs, HdAll R rows hs := by
  intro rows
  induction rows with
  | nil => exact fun _ => ⟨[], HdAll.nil R⟩
  | cons row rows ih =>
    intro h
    obtain ⟨hs, a⟩ := ih fun r hr => h r (List.mem_cons_of_mem _ hr)
    obtain ⟨x, hx⟩ := h row (List.mem_cons_self ..)
    refine ⟨x :: hs, by rw [List.length_cons, List.length_cons, a.1], fun i r g hr hg => ?_⟩
    cases i with
    | zero =>
      have hr : row = r := by simpa using hr
      have hg : x = g := by simpa using hg
      subst hr; subst hg; exact hx
    | succ i => exact a.2 i r g (by simpa using hr) (by simpa using hg)
theorem rowOK_get : ∀ {l : List Value} {ks : List Kd} {j : Nat} {k : Kd}, rowOK l ks → ks[j]? = some k → ∃ v, l[j]? = some v ∧ valIs (some v) k = true
  | [], [], j, k, _, hk => by simp at hk
  | [], _ :: _, _, _, h, _ => h.elim
  | _ :: _, [], _, _, h, _ => h.elim
  | v :: l, k0 :: ks, 0, k, h, hk => by simp only [List.getElem?_cons_zero, Option.some.injEq] at hk; subst hk; exact ⟨v, rfl, h.1⟩
  | v :: l, k0 :: ks, j + 1, k, h, hk => by
    obtain ⟨u, hu, h2⟩ := rowOK_get (j := j) h.2 (by simpa using hk)
    exact ⟨u, by simpa using hu, h2⟩
end Go.Proofs.Ytnlejejjeilpoaa.V2
