/- A symbolic executor of functions that make, turn and share memory: rows of cells as values, contracts of Calls theorems. What it tells of a piece of code is proved to be what the machine does. -/
import Derived.Test.YtomdimlnggpgbaaDoorSxE
set_option linter.unusedSimpArgs false
set_option linter.unusedVariables false
set_option linter.constructorNameAsVariable false
namespace Go.Sx
open Go

theorem calls_spec {P : Program} {s : Spec} (ho : s.own = []) (h : ∀ w xs Rs, (∀ R ∈ Rs, R.sub w) → s.pre xs [] Rs → ∃ v, shapeOK s.res v ∧ (Calls P s.fn xs.toArray w fun e w' => e = .returned v ∧ RowKit.Below w.heap.size w w') ∧ s.post xs [] Rs v [] Hl.none) : s.OK P := by
  intro w xs Hs Rs hl1 hl2 hs1 hs2 hd1 hd2 hp
  rw [ho] at hl1
  have e0 : Hs = [] := List.length_eq_zero_iff.1 hl1
  subst e0
  obtain ⟨v, ⟨ρ2, h1, h2⟩, hc, hpost⟩ := h w xs Rs hs2 hp
  refine hc.mono ?_
  rintro e w' ⟨rfl, hb⟩
  refine ⟨ρ2, [], Hl.none, (by rw [h1]), h2, ⟨hb.os, hb.tape, hb.output, hb.size, fun b hl _ => hb.block b hl, rfl, (fun _ h => nomatch h), (fun _ _ h => nomatch h), (fun _ h => nomatch h), (fun b h => by simp [Hl.mem, Hl.none] at h), (fun p _ _ _ _ h => by simp at h), (fun _ h => nomatch h)⟩, ?_⟩
  rw [← h1]; exact hpost

/-- An environment of literals. -/
def envI (l : List Int) (b : Bool) (hs : List Hl) : Env := ⟨fun k => l.getD k 0, fun _ => b, fun _ => .empty, fun _ => .tuple #[], fun k => hs.getD k Hl.none⟩

/-! ### Norms -/
theorem ckNorms_agree {m : Nat} {ρ ρ' : Env} (h : Agree m ρ ρ') : ∀ (ks : List Ck) (n : Nat), n + ckLen ks ≤ m → ckNorms n ks ρ → ckNorms n ks ρ'
  | [], _, _, _ => trivial
  | k :: ks, n, hm, hn => by
    have hl : ckLen (k :: ks) = k.len + ckLen ks := by simp [ckLen]
    rw [hl] at hm
    refine ⟨?_, ckNorms_agree h ks (n + k.len) (by omega) hn.2⟩
    have h1 := hn.1
    cases k <;> simp only [ckNorm, Ck.len] at h1 hm ⊢
    · rw [h.i n (by omega), h.i (n + 1) (by omega)]; exact h1
    · rw [h.i n (by omega), h.i (n + 1) (by omega), h.i (n + 2) (by omega), h.i (n + 3) (by omega)]; exact h1
    · rw [h.i n (by omega)]; exact h1
theorem ckNormsW_agree {m : Nat} {ρ ρ' : Env} (h : Agree m ρ ρ') : ∀ (ks : List Ck) (n : Nat), n + ckLen ks ≤ m → ckNormsW n ks ρ → ckNormsW n ks ρ'
  | [], _, _, _ => trivial
  | k :: ks, n, hm, hn => by
    have hl : ckLen (k :: ks) = k.len + ckLen ks := by simp [ckLen]
    rw [hl] at hm
    refine ⟨?_, ckNormsW_agree h ks (n + k.len) (by omega) hn.2⟩
    have h1 := hn.1
    cases k <;> simp only [ckNormW, Ck.len] at h1 hm ⊢
    · rw [h.i (n + 1) (by omega)]; exact h1
    · rw [h.i (n + 1) (by omega), h.i (n + 2) (by omega), h.i (n + 3) (by omega)]; exact h1
theorem ite_ge {ρ : Env} {c a b : E} {m : Int} (h1 : m ≤ iev ρ a) (h2 : m ≤ iev ρ b) : m ≤ iev ρ (.ite c a b) := by
  rw [iev_ite]; split <;> assumption
def noPl : List Ck → Bool
  | [] => true
  | k :: l => (match k with | .ptr | .sl | .map => false | _ => true) && noPl l
theorem ckNorms_pure : ∀ (ks : List Ck) (n : Nat) (ρ : Env), noPl ks = true → ckNorms n ks ρ
  | [], _, _, _ => trivial
  | k :: ks, n, ρ, h => by
    simp only [noPl, Bool.and_eq_true] at h
    refine ⟨?_, ckNorms_pure ks _ ρ h.2⟩
    cases k <;> first | exact trivial | cases h.1
/-- An aggregate of variables is what it was. -/
theorem ev_ag {a b : Env} {n m : Nat} {ks : List Ck} (h : Agree m a b) (hm : n + ckLen ks ≤ m) : (SV.agg (ckCVs n ks)).ev b = (SV.agg (ckCVs n ks)).ev a := by
  simp only [SV.ev]
  rw [CV.agreeL (h.mono hm) _ (ckCVs_upto ks n)]

/-! ### Rows as values -/
def kdOf : Ck → Kd
  | .int k => .int k | .bool => .bool | .str => .str | .any => .any | .ptr => .ptr | .sl => .slice | .map => .map
theorem ckCV_upto (k : Ck) (n : Nat) : (k.cv n).upto (n + k.len) = true := by
  cases k <;> simp [Ck.cv, Ck.len, CV.upto, E.upto]
theorem one_rep (k : Ck) (n : Nat) (v : Value) (ρ : Env) (h : valIs (some v) (kdOf k) = true) : ∃ ρ', Agree n ρ ρ' ∧ ckNormW n ρ' k ∧ (k.cv n).ev ρ' = v := by
  cases k with
  | int k =>
    cases v <;> simp [valIs, kdOf] at h
    subst h
    rename_i x
    exact ⟨ρ.setI n x, agree_setI _ _ x (Nat.le_refl _), trivial, by simp [Ck.cv, CV.ev, iev_var, setI_i]⟩
  | bool =>
    cases v <;> simp [valIs, kdOf] at h
    rename_i x
    exact ⟨ρ.setB n x, agree_setB _ _ x (Nat.le_refl _), trivial, by simp [Ck.cv, CV.ev, bev_bvar, Env.setB]⟩
  | str =>
    cases v <;> simp [valIs, kdOf] at h
    rename_i x
    exact ⟨ρ.setS n x, agree_setS _ _ x (Nat.le_refl _), trivial, by simp [Ck.cv, CV.ev, sev_svar, Env.setS]⟩
  | any => exact ⟨ρ.setV n v, agree_setV _ _ v (Nat.le_refl _), trivial, by simp [Ck.cv, CV.ev, Env.setV]⟩
  | ptr =>
    have key : ∀ x y : Int, -1 ≤ x → 0 ≤ y → v = .pointer (slP x y) → ∃ ρ', Agree n ρ ρ' ∧ ckNormW n ρ' .ptr ∧ (Ck.ptr.cv n).ev ρ' = v := by
      intro x y hx hy hv
      refine ⟨(ρ.setI n x).setI (n + 1) y, (agree_setI _ _ x (Nat.le_refl _)).trans (agree_setI _ _ y (by omega)), ?_, ?_⟩
      · simp [ckNormW, Env.setI]; exact hy
      · simp [Ck.cv, CV.ev, iev_var, Env.setI, hv]
    cases v with
    | pointer a =>
      cases a with
      | none => exact key (-1) 0 (by omega) (by omega) rfl
      | some a =>
        obtain ⟨b, o, s⟩ := a
        cases s with
        | none => exact key b o (by omega) (by omega) (by simp [slP_pos])
        | some s => simp [valIs, kdOf] at h
    | _ => simp [valIs, kdOf] at h
  | sl =>
    cases v with
    | slice a l c =>
      obtain ⟨x, y, rfl, hy, _⟩ := slP_all a
      refine ⟨(((ρ.setI n x).setI (n + 1) y).setI (n + 2) l).setI (n + 3) c, (((agree_setI _ _ x (Nat.le_refl _)).trans (agree_setI _ _ y (by omega))).trans (agree_setI _ _ _ (by omega))).trans (agree_setI _ _ _ (by omega)), ?_, ?_⟩
      · simp [ckNormW, Env.setI]; exact hy
      · simp [Ck.cv, CV.ev, iev_var, Env.setI]
    | _ => simp [valIs, kdOf] at h
  | map =>
    cases v with
    | map a =>
      cases a with
      | none => exact ⟨ρ.setI n (-1), agree_setI _ _ _ (Nat.le_refl _), trivial, by simp [Ck.cv, CV.ev, iev_var, Env.setI]⟩
      | some r => exact ⟨ρ.setI n r, agree_setI _ _ _ (Nat.le_refl _), trivial, by show Value.map (if (ρ.setI n r).i n = -1 then none else some ((ρ.setI n r).i n).toNat) = _; rw [setI_i, if_neg (by omega), Int.toNat_natCast]⟩
    | _ => simp [valIs, kdOf] at h
/-- A row's cells are the values of variables from n on. -/
theorem row_rep : ∀ (ks : List Ck) (n : Nat) (row : List Value) (ρ : Env), rowOK row (ks.map kdOf) → ∃ ρ', Agree n ρ ρ' ∧ ckNormsW n ks ρ' ∧ (ckCVs n ks).map (CV.ev ρ') = row
  | [], n, [], ρ, _ => ⟨ρ, Agree.refl _ _, trivial, rfl⟩
  | k :: ks, n, v :: row, ρ, h => by
    obtain ⟨ρ1, g1, n1, e1⟩ := one_rep k n v ρ h.1
    obtain ⟨ρ2, g2, n2, e2⟩ := row_rep ks (n + k.len) row ρ1 h.2
    refine ⟨ρ2, g1.trans (g2.mono (by omega)), ⟨?_, n2⟩, ?_⟩
    · have := ckNormsW_agree (ks := [k]) (n := n) g2 (by simp [ckLen]) ⟨n1, trivial⟩
      exact this.1
    · simp only [ckCVs, List.map_cons, e2]
      rw [CV.agree g2 _ (ckCV_upto k n), e1]
  | [], _, _ :: _, _, h => h.elim
  | _ :: _, _, [], _, h => h.elim
theorem valIs_cv {ρ : Env} {n : Nat} (k : Ck) (h : ckNorm n ρ k) : valIs (some ((k.cv n).ev ρ)) (kdOf k) = true := by
  cases k <;> simp only [ckNorm] at h <;> simp only [Ck.cv, CV.ev, kdOf, valIs, decide_true, iev_var]
  · rcases Int.lt_or_le (ρ.i n) 0 with hx | hx
    · rw [show ρ.i n = -1 by omega, slP_nil]
    · rw [slP_pos hx]
def noPtr : List Ck → Bool
  | [] => true
  | k :: l => (match k with | .ptr => false | _ => true) && noPtr l
/-- Variables make a row, where there are no pointers. -/
theorem row_any {ρ : Env} : ∀ (ks : List Ck) (n : Nat), noPtr ks = true → rowOK ((ckCVs n ks).map (CV.ev ρ)) (ks.map kdOf)
  | [], _, _ => trivial
  | k :: ks, n, h => by
    simp only [noPtr, Bool.and_eq_true] at h
    refine ⟨?_, row_any ks _ h.2⟩
    cases k <;> simp only [Ck.cv, CV.ev, kdOf, valIs, decide_true]
    cases h.1
/-- Variables that are normal make a row. -/
theorem row_of {ρ : Env} : ∀ (ks : List Ck) (n : Nat), ckNorms n ks ρ → rowOK ((ckCVs n ks).map (CV.ev ρ)) (ks.map kdOf)
  | [], _, _ => trivial
  | k :: ks, n, h => ⟨valIs_cv k h.1, row_of ks _ h.2⟩

/-! ### What a template's cells become -/
def mLd (n0 : Nat) (l m : List CV) : List As := (mL n0 l m).getD []
/-- A's numbers differ, and are new. -/
def goodA (n0 : Nat) (A : List As) (hs : List (Nat × Option Nat)) : Bool := distinctA A && A.all (fun x => decide (n0 ≤ x.n)) && hs.all (fun x => decide (n0 ≤ x.1)) && distinctH hs
theorem assign_ag {n0 : Nat} {ρ : Env} {A : List As} {hs : List (Nat × Option Nat)} {l m : List CV} (hg : goodA n0 A hs = true) (hm : (mL n0 l m).isSome = true) (hsub : ∀ y ∈ mLd n0 l m, y ∈ A) : (SV.agg l).ev (assign ρ A hs) = (SV.agg m).ev ρ := by
  simp only [goodA, Bool.and_eq_true] at hg
  obtain ⟨x, hx⟩ := Option.isSome_iff_exists.1 hm
  have hs' : ∀ y ∈ x, y ∈ A := fun y hy => hsub y (by unfold mLd; rw [hx]; exact hy)
  simp only [SV.ev, mL_sound hg.1.1.1 hg.1.1.2 hg.1.2 l m x hx hs']
theorem assign_old {n0 : Nat} {ρ : Env} {A : List As} {hs : List (Nat × Option Nat)} (hg : goodA n0 A hs = true) : Agree n0 ρ (assign ρ A hs) := by
  simp only [goodA, Bool.and_eq_true] at hg
  exact assign_agree hg.1.1.2 hg.1.2

/-! ### Slices of rows -/
theorem RdRows.uniq {R : Hl} {v : Value} {ks : List Kd} {a b : List (List Value)} (h1 : RdRows R v ks a) (h2 : RdRows R v ks b) : a = b := by
  obtain ⟨x, y, c, rfl, hy, h1⟩ := h1
  obtain ⟨x', y', c', he, hy', h2⟩ := h2
  simp only [Value.slice.injEq] at he
  obtain ⟨he, hl, rfl⟩ := he
  rcases h1 with rfl | ⟨hx, h1⟩
  · exact (List.length_eq_zero_iff.1 hl.symm).symm
  rcases h2 with rfl | ⟨hx', h2⟩
  · exact List.length_eq_zero_iff.1 hl
  obtain ⟨rfl, hyy⟩ := slP_inj (by omega) hy (by omega) hy' he
  have hyy := hyy hx
  subst hyy
  apply List.ext_getElem hl
  intro i hi hi'
  obtain ⟨k1, c1⟩ := h1 i _ (List.getElem?_eq_getElem hi)
  obtain ⟨k2, c2⟩ := h2 i _ (List.getElem?_eq_getElem hi')
  apply List.ext_getElem (by rw [rowOK_length k1, rowOK_length k2])
  intro j hj hj'
  have e1 := c1 j _ (List.getElem?_eq_getElem hj)
  have e2 := c2 j _ (List.getElem?_eq_getElem hj')
  rw [e1] at e2
  exact Option.some.inj e2
/-- A row of it. -/
theorem RdRows.at {R : Hl} {x y l c : Int} {ks : List Kd} {rows : List (List Value)} (h : RdRows R (.slice (slP x y) l.toNat c.toNat) ks rows) (hx : -1 ≤ x) (hy : 0 ≤ y) (hl : 0 ≤ l) :
    l = rows.length ∧ ∀ (i : Nat) row, rows[i]? = some row → 0 ≤ x ∧ rowOK row ks ∧ ∀ j u, row[j]? = some u → R.cell x.toNat (y.toNat + i * ks.length + j) = some u := by
  obtain ⟨x', y', c', he, hy', h⟩ := h
  simp only [Value.slice.injEq] at he
  obtain ⟨he, hle, _⟩ := he
  refine ⟨by omega, fun i row hi => ?_⟩
  rcases h with rfl | ⟨hx', h⟩
  · simp at hi
  obtain ⟨rfl, hyy⟩ := slP_inj hx hy (by omega) hy' he
  have hyy := hyy hx'
  subst hyy
  exact ⟨hx', h i row hi⟩
/-- A slice that has rows of its own. -/
def OwR (F : Hl) (e : TypeId) (ks : List Kd) (v : Value) (rows : List (List Value)) : Prop := (∀ row ∈ rows, rowOK row ks) ∧ OwnsH F e ks.length v rows.length rows.flatten
theorem OwR.nil (F : Hl) (e : TypeId) (ks : List Kd) : OwR F e ks (.slice none 0 0) [] := ⟨fun _ h => (nomatch h), by simp [OwnsH]⟩
theorem flat_get {α : Type} {n : Nat} : ∀ {rows : List (List α)} (_ : ∀ r ∈ rows, r.length = n) {i j : Nat} {row : List α} {u : α}, rows[i]? = some row → row[j]? = some u → rows.flatten[i * n + j]? = some u
  | [], _, i, j, row, u, h, _ => by simp at h
  | r :: rows, hl, 0, j, row, u, h, hj => by
    simp only [List.getElem?_cons_zero, Option.some.injEq] at h
    subst h
    have hlt : j < r.length := (List.getElem?_eq_some_iff.1 hj).1
    rw [List.flatten_cons, Nat.zero_mul, Nat.zero_add, List.getElem?_append_left hlt]; exact hj
  | r :: rows, hl, i + 1, j, row, u, h, hj => by
    have hr : r.length = n := hl r (by simp)
    have ih := flat_get (rows := rows) (fun r hr => hl r (by simp [hr])) (i := i) (j := j) (row := row) (u := u) (by simpa using h) hj
    rw [List.flatten_cons, List.getElem?_append_right (by rw [hr, Nat.succ_mul]; omega), hr, show (i + 1) * n + j - n = i * n + j by rw [Nat.succ_mul]; omega]
    exact ih
theorem OwR.rd {F : Hl} {e : TypeId} {ks : List Kd} {v : Value} {rows : List (List Value)} (h : OwR F e ks v rows) : RdRows F v ks rows := by
  obtain ⟨hk, hl, h⟩ := h
  rcases h with ⟨rfl, hn⟩ | ⟨g, cap, cur, rfl, hg, hle, hm, hs, ht⟩
  · exact ⟨-1, 0, 0, by rw [slP_nil, hn], by omega, Or.inl (List.length_eq_zero_iff.1 hn)⟩
  · refine ⟨g, 0, cap, by simp [slP_pos], by omega, Or.inr ⟨by omega, fun i row hi => ⟨hk row (List.mem_of_getElem? hi), fun j u hj => ?_⟩⟩⟩
    have e1 := flat_get (n := ks.length) (fun r hr => rowOK_length (hk r hr)) hi hj
    have e2 : cur.toList[i * ks.length + j]? = some u := by
      rw [← ht] at e1
      rw [List.getElem?_take] at e1
      split at e1
      · exact e1
      · cases e1
    unfold Hl.cell
    rw [Int.toNat_natCast, hg]
    simpa using e2
theorem OwR.snoc {F : Hl} {e : TypeId} {ks : List Kd} {v : Value} {rows : List (List Value)} {row : List Value} {n : Nat} {xs : List Value} (hk : ∀ r ∈ rows, rowOK r ks) (hr : rowOK row ks) (h : OwnsH F e ks.length v n xs) (hn : n = rows.length + 1) (hx : xs = rows.flatten ++ row) : OwR F e ks v (rows ++ [row]) := by
  refine ⟨fun r hr' => ?_, ?_⟩
  · rcases List.mem_append.1 hr' with h | h
    · exact hk r h
    · rw [List.mem_singleton] at h; subst h; exact hr
  · subst hn; subst hx
    simpa using h
/-- The first rows of it. -/
theorem RdRows.take {R : Hl} {x y l c : Int} {ks : List Kd} {rows : List (List Value)} (h : RdRows R (.slice (slP x y) l.toNat c.toNat) ks rows) (hx : -1 ≤ x) (hy : 0 ≤ y) (hl : 0 ≤ l) {m c' : Int} (h0 : 0 ≤ m) (hm : m ≤ l) : RdRows R (.slice (slP x y) m.toNat c'.toNat) ks (rows.take m.toNat) := by
  obtain ⟨e, ha⟩ := h.at hx hy hl
  refine ⟨x, y, c'.toNat, ?_, hy, ?_⟩
  · rw [List.length_take, Nat.min_eq_left (by omega)]
  · by_cases hz : rows.take m.toNat = []
    · exact Or.inl hz
    · right
      obtain ⟨r, hr⟩ := List.exists_mem_of_ne_nil _ hz
      obtain ⟨i, hi⟩ := List.getElem?_of_mem hr
      have h1 : rows[i]? = some r := by
        rw [List.getElem?_take] at hi
        split at hi
        · exact hi
        · cases hi
      refine ⟨(ha i r h1).1, fun i row hi => ?_⟩
      have h1 : rows[i]? = some row := by
        rw [List.getElem?_take] at hi
        split at hi
        · exact hi
        · cases hi
      exact (ha i row h1).2
/-- A row is appended. -/
theorem OwR.app {A B : Hl} {e : TypeId} {ks : List Kd} {x l c x1 c1 : Int} {rows : List (List Value)} {row : List Value} (ho : OwR A e ks (.slice (slP x 0) l.toNat c.toNat) rows) (hl : l = rows.length) (hr : rowOK row ks)
    (happ : ∀ xs, OwnsH A e ks.length (.slice (slP x 0) l.toNat c.toNat) l.toNat xs → OwnsH B e ks.length (.slice (slP x1 0) (l.toNat + 1) c1.toNat) (l.toNat + 1) (xs ++ row)) : OwR B e ks (.slice (slP x1 0) (l + 1).toNat c1.toNat) (rows ++ [row]) := by
  have hn : l.toNat = rows.length := by omega
  rw [show (l + 1).toNat = l.toNat + 1 by omega]
  refine OwR.snoc ho.1 hr (happ rows.flatten ?_) (by omega) rfl
  have := ho.2
  rw [hn] at this ⊢
  exact this
theorem OwR.pre {A : Hl} {e : TypeId} {ks : List Kd} {x l c : Int} {rows : List (List Value)} (ho : OwR A e ks (.slice (slP x 0) l.toNat c.toNat) rows) (hl : l = rows.length) : OwnsH A e ks.length (.slice (slP x 0) l.toNat c.toNat) l.toNat rows.flatten := by
  have hn : l.toNat = rows.length := by omega
  have := ho.2
  rw [hn] at this ⊢
  exact this
theorem OwR.cap {A : Hl} {e : TypeId} {ks : List Kd} {x l c : Int} {rows : List (List Value)} (ho : OwR A e ks (.slice (slP x 0) l.toNat c.toNat) rows) (hl : l = rows.length) (hc : 0 ≤ c) : l ≤ c := by
  obtain ⟨_, _, h⟩ := ho
  rcases h with ⟨h, hn⟩ | ⟨g, cap, cur, h, hg, hle, _⟩
  · omega
  · simp only [Value.slice.injEq] at h
    obtain ⟨_, h1, h2⟩ := h
    omega
end Go.Sx
