/- Vectors: what comes, one by one, by what headers tell: plain facts. -/
import Derived.Test.YtnlejejjeilpoaaVfD
set_option linter.unusedSimpArgs false
set_option linter.unusedVariables false
set_option linter.constructorNameAsVariable false
namespace Go.Proofs.Ytnlejejjeilpoaa.V2
open Go Go.Sx

def cmpH (a b : Hd) : Int := orI (cmpI a.time b.time) (cmpI a.w b.w)
theorem first_hd {R R' : Hl} {ra rb : List Value} {a b : Hd} (xa : IsHd R ra a) (xb : IsHd R' rb b) : firstI ra rb = cmpH a b := by
  unfold firstI cmpH Hd.time Hd.w
  rw [xa.core, xb.core, core_I (by decide), core_I (by decide), core_I (by decide), core_I (by decide)]
def pick (m h : Hd) : Hd := if cmpH h m < 0 then h else m
def minOf (m : Hd) (l : List Hd) : Hd := l.foldl pick m
theorem minOf_mem (m : Hd) (l : List Hd) : minOf m l ∈ m :: l := by
  have key : ∀ (l : List Hd) (m : Hd), l.foldl pick m ∈ m :: l := by
    intro l
    induction l with
    | nil => intro m; exact List.mem_cons_self ..
    | cons h l ih =>
      intro m
      have h1 := ih (pick m h)
      rcases List.mem_cons.1 h1 with e | e
      · rw [List.foldl_cons, e]
        unfold pick
        split
        · exact List.mem_cons_of_mem _ (List.mem_cons_self ..)
        · exact List.mem_cons_self ..
      · exact List.mem_cons_of_mem _ (List.mem_cons_of_mem _ e)
  exact key l m
def at_ (v : List Int) (w : Int) : Int := v.getD (w - 1).toNat 0
def bump (v : List Int) (h : Hd) : List Int := v.set (h.w - 1).toNat h.seq
theorem bump_length (v : List Int) (h : Hd) : (bump v h).length = v.length := by unfold bump; rw [List.length_set]
theorem at_bump {v : List Int} {h : Hd} (hv : v.length = 6) (hw : 1 ≤ h.w ∧ h.w ≤ 6) (w : Int) (w1 : 1 ≤ w ∧ w ≤ 6) : at_ (bump v h) w = if w = h.w then h.seq else at_ v w := by
  unfold at_ bump
  rw [List.getD_eq_getElem?_getD, List.getElem?_set]
  split
  · rename_i e
    rw [if_pos (by omega), if_pos (by omega)]; rfl
  · rename_i e
    rw [if_neg (by omega), List.getD_eq_getElem?_getD]
/-- What is ready is the next of its writer. -/
theorem ready_next {v : List Int} {h : Hd} (hr : readyB v h = true) : h.form = true ∧ (1 ≤ h.w ∧ h.w ≤ 6) ∧ at_ v h.w = h.seq - 1 ∧ greatL2 v h.knows = true := by
  unfold readyB at hr
  simp only [Bool.and_eq_true, decide_eq_true_eq] at hr
  exact ⟨hr.1, (Hd.form_bd hr.1).1, hr.2.1, hr.2.2⟩
/-- Which may come yet. -/
noncomputable def cnt (hs : List Hd) (v : List Int) : Nat := (hs.filter fun h => h.form && decide (at_ v h.w < h.seq)).length
theorem filter_lt {α : Type} {p p' : α → Bool} : ∀ {l : List α}, (∀ x ∈ l, p' x = true → p x = true) → ((l.filter p').length ≤ (l.filter p).length) ∧ ((∃ x ∈ l, p x = true ∧ p' x = false) → (l.filter p').length < (l.filter p).length)
  | [], _ => ⟨Nat.le_refl _, fun ⟨_, h, _⟩ => by cases h⟩
  | a :: l, h => by
    obtain ⟨i1, i2⟩ := filter_lt (l := l) fun x hx => h x (List.mem_cons_of_mem _ hx)
    have ha := h a (List.mem_cons_self ..)
    rw [List.filter_cons, List.filter_cons]
    cases e' : p' a with
    | true =>
      rw [ha e', if_pos rfl, if_pos rfl]
      refine ⟨by simp only [List.length_cons]; omega, fun ⟨x, hx, h1, h2⟩ => ?_⟩
      rcases List.mem_cons.1 hx with rfl | hx
      · rw [e'] at h2; cases h2
      · have := i2 ⟨x, hx, h1, h2⟩
        simp only [List.length_cons]; omega
    | false =>
      rw [if_neg (by simp)]
      cases e : p a with
      | true =>
        rw [if_pos rfl]
        exact ⟨by simp only [List.length_cons]; omega, fun _ => by simp only [List.length_cons]; omega⟩
      | false =>
        rw [if_neg (by simp)]
        refine ⟨i1, fun ⟨x, hx, h1, h2⟩ => ?_⟩
        rcases List.mem_cons.1 hx with rfl | hx
        · rw [e] at h1; cases h1
        · exact i2 ⟨x, hx, h1, h2⟩
theorem cnt_bump {hs : List Hd} {v : List Int} {h : Hd} (hv : v.length = 6) (hm : h ∈ hs) (hr : readyB v h = true) : cnt hs (bump v h) < cnt hs v := by
  obtain ⟨hf, hw, ha, _⟩ := ready_next hr
  refine (filter_lt fun x hx h1 => ?_).2 ⟨h, hm, ?_, ?_⟩
  · simp only [Bool.and_eq_true, decide_eq_true_eq] at h1 ⊢
    refine ⟨h1.1, ?_⟩
    have h2 := h1.2
    rw [at_bump hv hw x.w (Hd.form_bd h1.1).1] at h2
    split at h2
    · rename_i e; rw [e, ha]; omega
    · exact h2
  · simp only [Bool.and_eq_true, decide_eq_true_eq]
    exact ⟨hf, by rw [ha]; omega⟩
  · rw [at_bump hv hw h.w hw, if_pos rfl]
    simp
/-- What comes, one by one. -/
inductive Comes (hs : List Hd) : List Int → List Hd → List Int → Prop
  | nil (v : List Int) : Comes hs v [] v
  | snoc {v v' : List Int} {out rest : List Hd} {m : Hd} : Comes hs v out v' → hs.filter (readyB v') = m :: rest → Comes hs v (out ++ [minOf m rest]) (bump v' (minOf m rest))
theorem pick_ready {hs : List Hd} {v : List Int} {m : Hd} {rest : List Hd} (h : hs.filter (readyB v) = m :: rest) : minOf m rest ∈ hs ∧ readyB v (minOf m rest) = true := by
  have := minOf_mem m rest
  rw [← h] at this
  exact ⟨(List.mem_filter.1 this).1, (List.mem_filter.1 this).2⟩
theorem Comes.length {hs : List Hd} {v v' : List Int} {out : List Hd} (hv : v.length = 6) (h : Comes hs v out v') : v'.length = 6 ∧ out.length + cnt hs v' ≤ cnt hs v := by
  induction h with
  | nil => exact ⟨hv, by simp⟩
  | snoc h1 h2 ih =>
    obtain ⟨i1, i2⟩ := ih
    obtain ⟨p1, p2⟩ := pick_ready h2
    have := cnt_bump i1 p1 p2
    refine ⟨by rw [bump_length]; exact i1, ?_⟩
    rw [List.length_append, List.length_singleton]; omega
theorem cnt_le (hs : List Hd) (v : List Int) : cnt hs v ≤ hs.length := List.length_filter_le ..
theorem Comes.few {hs : List Hd} {v v' : List Int} {out : List Hd} (hv : v.length = 6) (h : Comes hs v out v') : out.length ≤ hs.length := by
  have := (h.length hv).2
  have := cnt_le hs v
  omega
/-- From a vector that nothing is ready at, nothing comes. -/
theorem Comes.none {hs : List Hd} {v v' : List Int} {out : List Hd} (h : Comes hs v out v') (h0 : hs.filter (readyB v) = []) : out = [] ∧ v' = v := by
  induction h with
  | nil => exact ⟨rfl, rfl⟩
  | snoc h1 h2 ih =>
    obtain ⟨_, e⟩ := ih
    rw [e, h0] at h2
    cases h2
/-- Rows that read as headers. -/
def HdAll (R : Hl) (rows : List (List Value)) (hs : List Hd) : Prop := rows.length = hs.length ∧ ∀ (i : Nat) row h, rows[i]? = some row → hs[i]? = some h → IsHd R row h
theorem HdAll.nil (R : Hl) : HdAll R [] [] := ⟨rfl, fun i row h hr => by simp at hr⟩
theorem HdAll.snoc {R : Hl} {rows : List (List Value)} {hs : List Hd} {row : List Value} {h : Hd} (a : HdAll R rows hs) (x : IsHd R row h) : HdAll R (rows ++ [row]) (hs ++ [h]) := by
  refine ⟨by rw [List.length_append, List.length_append, a.1]; rfl, fun i r g hr hg => ?_⟩
  rcases Nat.lt_or_ge i rows.length with hi | hi
  · rw [List.getElem?_append_left hi] at hr
    rw [List.getElem?_append_left (by rw [← a.1]; exact hi)] at hg
    exact a.2 i r g hr hg
  · rw [List.getElem?_append_right hi] at hr
    rw [List.getElem?_append_right (by rw [← a.1]; exact hi), ← a.1] at hg
    have e : i - rows.length = 0 := by
      have := (List.getElem?_eq_some_iff.1 hr).1
      simpa using this
    rw [e] at hr hg
    have hr : row = r := by simpa using hr
    have hg : h = g := by simpa using hg
    subst hr; subst hg; exact x
theorem HdAll.mono {R R' : Hl} {rows : List (List Value)} {hs : List Hd} (a : HdAll R rows hs) (hl : R.le R') : HdAll R' rows hs := ⟨a.1, fun i row h hr hh => (a.2 i row h hr hh).mono hl⟩
theorem HdAll.uniq {R : Hl} {rows : List (List Value)} {hs hs' : List Hd} (a : HdAll R rows hs) (b : HdAll R rows hs') : hs = hs' := by
  apply List.ext_getElem (by rw [← a.1, ← b.1])
  intro i h1 h2
  have hr : rows[i]? = some (rows[i]'(by rw [a.1]; exact h1)) := List.getElem?_eq_getElem _
  exact (a.2 i _ _ hr (List.getElem?_eq_getElem h1)).uniq (b.2 i _ _ hr (List.getElem?_eq_getElem h2))
theorem HdAll.at {R : Hl} {rows : List (List Value)} {hs : List Hd} (a : HdAll R rows hs) {i : Nat} {row : List Value} (hr : rows[i]? = some row) : ∃ h, hs[i]? = some h ∧ IsHd R row h := by
  have hi := (List.getElem?_eq_some_iff.1 hr).1
  rw [a.1] at hi
  exact ⟨hs[i], List.getElem?_eq_getElem hi, a.2 i row _ hr (List.getElem?_eq_getElem hi)⟩
/-! ### Rows of one's own, with tokens of one's own -/
def tokV (row : List Value) : Value := row.getD 53 (.bool false)
/-- The tokens lie in other blocks. -/
def Apart (o : Option Nat) (rows : List (List Value)) (hs : List Hd) : Prop := ∀ (i : Nat) row h, rows[i]? = some row → hs[i]? = some h → h.t ≠ [] → (tokV row).ownBlock ≠ o
theorem tok_mem {R : Hl} {row : List Value} {h : Hd} (x : IsHd R row h) (ht : h.t ≠ []) : ∃ (a : Int) (y : Int) (l c : Nat), 0 ≤ a ∧ tokV row = .slice (slP a y) l c ∧ R.mem a.toNat := by
  obtain ⟨a, y, c, e, hy, hr⟩ := x.tok
  rcases hr with hr | ⟨ha, hr⟩
  · exact absurd (List.map_eq_nil_iff.1 hr) ht
  · refine ⟨a, y, _, c, ha, e, ?_⟩
    match hT : h.t, ht with
    | t :: T, _ =>
      have ht := x.byte t (by rw [hT]; exact List.mem_cons_self ..)
      have h0 := (hr 0 (bys t) (by rw [hT]; rfl)).2 0 (.int .u8 (t[0]'(by omega))) (by rw [bys_get, List.getElem?_eq_getElem (by omega)]; rfl)
      unfold Hl.cell at h0
      unfold Hl.mem
      split at h0
      · rename_i e; rw [e]; rfl
      · cases h0
theorem own_slP {a y : Int} {l c : Nat} (h : 0 ≤ a) : (Value.slice (slP a y) l c).ownBlock = some a.toNat := by
  rw [slP_pos h]; rfl
theorem IsHd.keep {A B : Hl} {o o' : Option Nat} {row : List Value} {h : Hd} (x : IsHd A row h) (ha : h.t ≠ [] → (tokV row).ownBlock ≠ o) (hB : ∀ b, A.mem b → some b ≠ o → B b = A b) (ho : ∀ b, A.mem b → some b ≠ o → some b ≠ o') :
    IsHd B row h ∧ (h.t ≠ [] → (tokV row).ownBlock ≠ o') := by
  by_cases ht : h.t = []
  · refine ⟨⟨x.ok, x.size, x.core, ?_, x.byte, x.few⟩, fun h0 => absurd ht h0⟩
    obtain ⟨a, y, c, e, hy, hr⟩ := x.tok
    exact ⟨a, y, c, e, hy, Or.inl (by rw [ht]; rfl)⟩
  · obtain ⟨a, y, l, c, h0, e, hm⟩ := tok_mem x ht
    have hne := ha ht
    rw [e, own_slP h0] at hne
    refine ⟨⟨x.ok, x.size, x.core, ?_, x.byte, x.few⟩, fun _ => by rw [e, own_slP h0]; exact ho _ hm hne⟩
    obtain ⟨a', y', c', e', hy', hr⟩ := x.tok
    refine ⟨a', y', c', e', hy', hr.imp id fun ⟨ha', hr⟩ => ⟨ha', fun i row' hi => ⟨(hr i row' hi).1, fun j u hu => ?_⟩⟩⟩
    have e' : tokV row = .slice (slP a' y') (h.t.map bys).length c' := e'
    rw [e] at e'
    simp only [Value.slice.injEq] at e'
    have e1 := e'.1
    rw [slP_pos h0, slP_pos ha'] at e1
    simp only [Option.some.injEq, Addr.mk.injEq] at e1
    have hc := (hr i row' hi).2 j u hu
    unfold Hl.cell at hc ⊢
    rw [← e1.1] at hc ⊢
    rw [hB _ hm hne]; exact hc
theorem HdAll.keep {A B : Hl} {o o' : Option Nat} {rows : List (List Value)} {hs : List Hd} (x : HdAll A rows hs) (ha : Apart o rows hs) (hB : ∀ b, A.mem b → some b ≠ o → B b = A b) (ho : ∀ b, A.mem b → some b ≠ o → some b ≠ o') : HdAll B rows hs ∧ Apart o' rows hs :=
  ⟨⟨x.1, fun i row h hr hh => ((x.2 i row h hr hh).keep (ha i row h hr hh) hB ho).1⟩, fun i row h hr hh => ((x.2 i row h hr hh).keep (ha i row h hr hh) hB ho).2⟩
theorem Apart.snoc {o : Option Nat} {rows : List (List Value)} {hs : List Hd} {row : List Value} {h : Hd} (hl : rows.length = hs.length) (a : Apart o rows hs) (x : h.t ≠ [] → (tokV row).ownBlock ≠ o) : Apart o (rows ++ [row]) (hs ++ [h]) := by
  intro i r g hr hg
  rcases Nat.lt_or_ge i rows.length with hi | hi
  · rw [List.getElem?_append_left hi] at hr
    rw [List.getElem?_append_left (by rw [← hl]; exact hi)] at hg
    exact a i r g hr hg
  · rw [List.getElem?_append_right hi] at hr
    rw [List.getElem?_append_right (by rw [← hl]; exact hi), ← hl] at hg
    have e : i - rows.length = 0 := by
      have := (List.getElem?_eq_some_iff.1 hr).1
      simpa using this
    rw [e] at hr hg
    have hr : row = r := by simpa using hr
    have hg : h = g := by simpa using hg
    subst hr; subst hg; exact x
/-- A header whose tokens were cloned. -/
theorem rowOK_set {l : List Value} {ks : List Kd} {v : Value} : ∀ {j : Nat} {k : Kd}, rowOK l ks → ks[j]? = some k → valIs (some v) k = true → rowOK (l.set j v) ks := by
  induction l generalizing ks with
  | nil => intro j k h hk hv; exact h
  | cons a l ih =>
    intro j k h hk hv
    cases ks with
    | nil => exact h.elim
    | cons k0 ks =>
      cases j with
      | zero => simp only [List.getElem?_cons_zero, Option.some.injEq] at hk; subst hk; exact ⟨hv, h.2⟩
      | succ j => exact ⟨h.1, ih h.2 (by simpa using hk) hv⟩
theorem IsHd.clone {A B : Hl} {row : List Value} {h : Hd} (x : IsHd A row h) {u : Value} (hu : RdRows B u tkd (h.t.map bys)) : IsHd B (row.set 53 u) h := by
  have hl := rowOK_length x.ok
  have h125 : hkd.length = 125 := rfl
  refine ⟨rowOK_set x.ok (k := .slice) rfl ?_, ?_, ?_, ?_, x.byte, x.few⟩
  · obtain ⟨a, y, c, e, _⟩ := hu
    rw [e]; rfl
  · have := x.size
    unfold cI at this ⊢
    rw [List.getElem?_set_ne (by decide)]
    exact this
  · rw [List.set_set]; exact x.core
  · rw [List.getD_eq_getElem?_getD, List.getElem?_set_self (by omega)]
    exact hu
end Go.Proofs.Ytnlejejjeilpoaa.V2
