/- Layer 9: rows of bytes in a slice of one's own, that are only read: read, appended. Plain facts. -/
import Derived.Test.YtomdimlnggpgbaaDoorPkI
set_option linter.unusedSimpArgs false
set_option linter.unusedVariables false
set_option linter.constructorNameAsVariable false
namespace Go.Sx
open Go
theorem OwnsH.own_mem {F : Hl} {e : TypeId} {k : Nat} {v : Value} {n : Nat} {us : List Value} (h : OwnsH F e k v n us) {b : Nat} (hb : v.ownBlock = some b) : F.mem b := by
  rcases h.2 with ⟨h, _⟩ | ⟨gg, cap, cur, h, hg, _⟩
  · rw [h] at hb; cases hb
  · rw [h] at hb
    have : gg = b := by simpa [Value.ownBlock] using hb
    subst this
    unfold Hl.mem; rw [hg]; rfl
theorem OwnsH.mono {F G : Hl} (hl : F.le G) {e : TypeId} {k : Nat} {v : Value} {m : Nat} {us : List Value} (h : OwnsH F e k v m us) : OwnsH G e k v m us := by
  refine ⟨h.1, h.2.imp id fun ⟨g, cap, cur, hv, hg, r⟩ => ⟨g, cap, cur, hv, hl _ _ hg, r⟩⟩
theorem OwnsH.inj {F : Hl} {e : TypeId} {k : Nat} {v : Value} {n m : Nat} {us ws : List Value} (h1 : OwnsH F e k v n us) (h2 : OwnsH F e k v m ws) : n = m ∧ us = ws := by
  obtain ⟨l1, h1⟩ := h1
  obtain ⟨l2, h2⟩ := h2
  rcases h1 with ⟨h1, hn⟩ | ⟨g, cap, cur, h1, hg, _, _, _, ht⟩ <;> rcases h2 with ⟨h2, hm⟩ | ⟨g', cap', cur', h2, hg', _, _, _, ht'⟩
  · subst hn; subst hm
    refine ⟨rfl, ?_⟩
    rw [Nat.zero_mul] at l1 l2
    rw [List.length_eq_zero_iff.1 l1, List.length_eq_zero_iff.1 l2]
  · rw [h1] at h2; cases h2
  · rw [h1] at h2; cases h2
  · rw [h1] at h2
    simp only [Value.slice.injEq, Option.some.injEq, Addr.mk.injEq, and_true] at h2
    obtain ⟨eg, en, _⟩ := h2
    subst eg; subst en
    rw [hg] at hg'
    simp only [Option.some.injEq, Obj.cells.injEq, and_true] at hg'
    rw [← ht, ← ht', hg']
    exact ⟨rfl, rfl⟩
/-- What is read of an own slice of one-celled values. -/
theorem OwnsH.cellAt {F : Hl} {e : TypeId} {x l c : Int} {n : Nat} {us : List Value} (h : OwnsH F e 1 (.slice (slP x 0) l.toNat c.toNat) n us) (hx : -1 ≤ x) {i : Nat} (hi : i < n) : 0 ≤ x ∧ F.cell x.toNat i = us[i]? := by
  obtain ⟨hl, h⟩ := h
  rcases h with ⟨_, hn⟩ | ⟨g, cap, cur, hv, hg, hle, hm, hs, ht⟩
  · omega
  · simp only [Value.slice.injEq] at hv
    obtain ⟨hp, _, _⟩ := hv
    have h0 : 0 ≤ x := by
      rcases Int.lt_or_le x 0 with hlt | h0
      · rw [show x = -1 by omega, slP_nil] at hp; cases hp
      · exact h0
    rw [slP_pos h0] at hp
    simp only [Option.some.injEq, Addr.mk.injEq, and_true] at hp
    refine ⟨h0, ?_⟩
    rw [hp.1, ← ht]; unfold Hl.cell; rw [hg, List.getElem?_take_of_lt (by omega), Array.getElem?_toList]
end Go.Sx
namespace Go.Proofs.YtomdimlnggpgbaaDoor
open Go Go.Sx Go.Pk

theorem slP_eqS {a b x y : Int} (hx : 0 ≤ x) (hy : 0 ≤ y) (hb : 0 ≤ b) (h : slP a b = slP x y) : a = x ∧ b = y := by
  rcases Int.lt_or_le a 0 with ha | ha
  · exfalso
    rw [slP_pos hx] at h
    unfold slP at h
    rw [if_neg (by omega)] at h
    split at h
    · cases h
    · simp only [Option.some.injEq, Addr.mk.injEq] at h
      obtain ⟨_, _, h⟩ := h
      cases h
  · rw [slP_pos ha, slP_pos hx] at h
    simp only [Option.some.injEq, Addr.mk.injEq] at h
    omega
theorem own_slP {a y : Int} {l c : Nat} (h : 0 ≤ a) : (Value.slice (slP a y) l c).ownBlock = some a.toNat := by
  rw [slP_pos h]; rfl
/-- Behind an appending no block that was there is the slice's new one. -/
theorem app_new {H : Hl} {x x' : Int} {l c l' c' : Nat} (hx : -1 ≤ x') (h : some x'.toNat = (Value.slice (slP x 0) l c).ownBlock ∨ ¬ H.mem x'.toNat ∨ x' = -1) : ∀ b, H.mem b → some b ≠ (Value.slice (slP x 0) l c).ownBlock → some b ≠ (Value.slice (slP x' 0) l' c').ownBlock := by
  intro b hb hne he
  rcases Int.lt_or_le x' 0 with hn | hn
  · rw [show x' = -1 by omega, slP_nil] at he; cases he
  · rw [own_slP hn] at he
    have he : b = x'.toNat := by simpa using he
    rcases h with h | h | h
    · exact hne (by rw [he]; exact h)
    · rw [← he] at h; exact h hb
    · omega
/-- A row that reads as bytes, in no block but one's own. -/
def RowR (F : Hl) (o : Option Nat) (u : Value) (r : List Int) : Prop := ∃ (x y : Int) (c : Nat), u = .slice (slP x y) r.length c ∧ -1 ≤ x ∧ 0 ≤ y ∧ (r = [] ∨ (0 ≤ x ∧ some x.toNat ≠ o ∧ ∀ j z, r[j]? = some z → F.cell x.toNat (y.toNat + j) = some (.int .u8 z)))
theorem cell_mem {F : Hl} {b j : Nat} {v : Value} (h : F.cell b j = some v) : F.mem b := by
  unfold Hl.cell at h
  unfold Hl.mem
  cases hF : F b with
  | none => rw [hF] at h; cases h
  | some o => rfl
theorem cell_of {F G : Hl} {b j : Nat} {v : Value} (h : F.cell b j = some v) (e : G b = F b) : G.cell b j = some v := by
  unfold Hl.cell at h ⊢
  rw [e]; exact h
theorem RowR.keep {F G : Hl} {o o' : Option Nat} {u : Value} {r : List Int} (h : RowR F o u r) (hk : ∀ b, F.mem b → some b ≠ o → G b = F b) (hn : ∀ b, F.mem b → some b ≠ o → some b ≠ o') : RowR G o' u r := by
  obtain ⟨x, y, c, hu, hx, hy, h⟩ := h
  refine ⟨x, y, c, hu, hx, hy, ?_⟩
  cases r with
  | nil => exact Or.inl rfl
  | cons z r =>
    rcases h with h | ⟨h0, hne, hc⟩
    · cases h
    · have hm : F.mem x.toNat := cell_mem (hc 0 z rfl)
      exact Or.inr ⟨h0, hn _ hm hne, fun j w hj => cell_of (hc j w hj) (hk _ hm hne)⟩
theorem RowR.rd {F : Hl} {o : Option Nat} {u : Value} {r : List Int} (h : RowR F o u r) : RdW F u r := by
  obtain ⟨x, y, c, hu, _, hy, h⟩ := h
  exact ⟨x, y, c, hu, hy, h.imp id fun h => ⟨h.1, h.2.2⟩⟩
theorem RowR.of {F : Hl} {x y l c : Int} {r : List Int} (h : RdW F (.slice (slP x y) l.toNat c.toNat) r) (hx : -1 ≤ x) (hy : 0 ≤ y) : RowR F none (.slice (slP x y) l.toNat c.toNat) r := by
  obtain ⟨x', y', c', hu, hy', h⟩ := h
  simp only [Value.slice.injEq] at hu
  obtain ⟨h1, h2, h3⟩ := hu
  refine ⟨x, y, c.toNat, by rw [h2], hx, hy, h.imp id fun ⟨h0, h⟩ => ?_⟩
  obtain ⟨e1, e2⟩ := slP_inj hx hy (by omega) hy' h1
  subst e1
  have e2 := e2 h0
  subst e2
  exact ⟨h0, by simp, h⟩
/-- Rows that read as bytes, in a slice of one's own. -/
def RowsR (F : Hl) (v : Value) (rows : List (List Int)) : Prop := ∃ us : List Value, OwnsH F 30 1 v rows.length us ∧
  ∀ (j : Nat) (u : Value) (r : List Int), us[j]? = some u → rows[j]? = some r → RowR F v.ownBlock u r
theorem RowsR.nil (F : Hl) : RowsR F (.slice none 0 0) [] := ⟨[], ⟨rfl, Or.inl ⟨rfl, rfl⟩⟩, (fun j u r h => by simp at h)⟩
theorem RowsR.len {F : Hl} {v : Value} {rows : List (List Int)} {us : List Value} (h : OwnsH F 30 1 v rows.length us) : us.length = rows.length := by
  have := h.1; omega
theorem RowsR.mono {F G : Hl} (hl : F.le G) {v : Value} {rows : List (List Int)} (h : RowsR F v rows) : RowsR G v rows := by
  obtain ⟨us, ho, hr⟩ := h
  refine ⟨us, OwnsH.mono hl ho, fun j u r hu hrr => (hr j u r hu hrr).keep (fun b hm _ => ?_) (fun _ _ h => h)⟩
  obtain ⟨o, ho⟩ := Option.isSome_iff_exists.1 hm
  rw [hl _ _ ho, ho]
/-- A row is appended. -/
theorem RowsR.snoc {F B G : Hl} {v v' u : Value} {rows : List (List Int)} {r : List Int} (h : RowsR F v rows) (hd : F.dis B) (hu : RowR B none u r)
    (happ : ∀ xs, OwnsH (F.un B) 30 1 v rows.length xs → OwnsH G 30 1 v' (rows.length + 1) (xs ++ [u]))
    (hk : ∀ b, (F.un B).mem b → some b ≠ v.ownBlock → G b = (F.un B) b) (hn : ∀ b, (F.un B).mem b → some b ≠ v.ownBlock → some b ≠ v'.ownBlock) : RowsR G v' (rows ++ [r]) := by
  obtain ⟨us, ho, hr⟩ := h
  have hul := RowsR.len ho
  have hold : ∀ (j : Nat) (w : Value) (s : List Int), us[j]? = some w → rows[j]? = some s → RowR (F.un B) v.ownBlock w s := fun j w s hj hs =>
    (hr j w s hj hs).keep (fun b hm _ => by obtain ⟨o, ho⟩ := Option.isSome_iff_exists.1 hm; rw [Hl.un_at_left ho, ho]) (fun b _ h => h)
  have hun : RowR (F.un B) v.ownBlock u r := hu.keep (fun b hm _ => by rw [Hl.un_at_right fun h2 => hd b ⟨h2, hm⟩]) fun b hm _ e => hd b ⟨ho.own_mem e.symm, hm⟩
  refine ⟨us ++ [u], ?_, fun j w s hj hs => ?_⟩
  · rw [List.length_append, List.length_singleton]
    exact happ us (ho.mono (Hl.un_left _ _))
  · rcases Nat.lt_or_ge j us.length with hl | hl
    · rw [List.getElem?_append_left hl] at hj
      rw [List.getElem?_append_left (by omega)] at hs
      exact (hold j w s hj hs).keep hk hn
    · rw [List.getElem?_append_right hl] at hj
      rw [List.getElem?_append_right (by omega)] at hs
      have hj := List.mem_of_getElem? hj
      have hs := List.mem_of_getElem? hs
      rw [List.mem_singleton] at hj hs
      subst hj; subst hs
      exact hun.keep hk hn
/-- What is read of rows. -/
theorem RowsR.at {F : Hl} {x l c : Int} {rows : List (List Int)} (h : RowsR F (.slice (slP x 0) l.toNat c.toNat) rows) (hx : -1 ≤ x) (hl : 0 ≤ l) : l = rows.length ∧ ∀ (i : Nat) r, rows[i]? = some r → 0 ≤ x ∧ ∃ u, F.cell x.toNat i = some u ∧ RowR F (some x.toNat) u r := by
  obtain ⟨us, ho, hr⟩ := h
  have hul := RowsR.len ho
  refine ⟨?_, fun i r hi => ?_⟩
  · rcases ho.2 with ⟨h, hn⟩ | ⟨g, cap, cur, h, _⟩
    · simp only [Value.slice.injEq] at h; omega
    · simp only [Value.slice.injEq] at h; omega
  · have hi' := (List.getElem?_eq_some_iff.1 hi).1
    obtain ⟨h0, hc⟩ := ho.cellAt hx hi'
    have hu : us[i]? = some us[i] := List.getElem?_eq_getElem (by omega)
    have := hr i _ r hu hi
    rw [own_slP h0] at this
    exact ⟨h0, _, by rw [hc, hu], this⟩
theorem RowsR.uniq {F : Hl} {v : Value} {a b : List (List Int)} (h1 : RowsR F v a) (h2 : RowsR F v b) : a = b := by
  obtain ⟨us, ho, hr⟩ := h1
  obtain ⟨ws, ho', hr'⟩ := h2
  obtain ⟨el, e⟩ := ho.inj ho'
  subst e
  have hul := RowsR.len ho
  apply List.ext_getElem el
  intro j hj hj'
  have hu : us[j]? = some us[j] := List.getElem?_eq_getElem (by omega)
  exact (hr j _ _ hu (List.getElem?_eq_getElem hj)).rd.uniq (hr' j _ _ hu (List.getElem?_eq_getElem hj')).rd
/-- An appending of one row, as a walk tells it. -/
theorem rowsR_app {G F B : Hl} {x l c x' c' : Int} {rows : List (List Int)} {u : Value} {r : List Int} (h : RowsR F (.slice (slP x 0) l.toNat c.toNat) rows) (hx : -1 ≤ x) (hl : 0 ≤ l) (hd : F.dis B) (hu : RowR B none u r) (hx' : -1 ≤ x')
    (happ : ∀ xs, OwnsH (F.un B) 30 1 (.slice (slP x 0) l.toNat c.toNat) l.toNat xs → OwnsH G 30 1 (.slice (slP x' 0) (l.toNat + 1) c'.toNat) (l.toNat + 1) (xs ++ [u]))
    (hkeep : ∀ b, (F.un B).mem b → some b ≠ (Value.slice (slP x 0) l.toNat c.toNat).ownBlock → G b = (F.un B) b) (hnew : some x'.toNat = (Value.slice (slP x 0) l.toNat c.toNat).ownBlock ∨ ¬ (F.un B).mem x'.toNat ∨ x' = -1) : RowsR G (.slice (slP x' 0) (l + 1).toNat c'.toNat) (rows ++ [r]) := by
  have hlr : l = rows.length := (h.at hx hl).1
  have e1 : (l + 1).toNat = rows.length + 1 := by omega
  have e2 : l.toNat = rows.length := by omega
  rw [e2] at happ
  rw [e1]
  rw [e2] at h hkeep hnew
  exact RowsR.snoc h hd hu happ hkeep (app_new hx' hnew)
end Go.Proofs.YtomdimlnggpgbaaDoor
