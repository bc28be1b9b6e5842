/- Layer 7: rows of bytes of their own in a slice of one's own: read, appended, put, turned byte by byte. Plain facts. -/
import Derived.Test.YtdohcabnaihaoaaDskI
set_option linter.unusedSimpArgs false
set_option linter.unusedVariables false
set_option linter.constructorNameAsVariable false
namespace Go.Sx
open Go
/-- A cell of an own slice is turned. -/
theorem OwnsH.put1 {F : Hl} {e : TypeId} {x l c : Int} {n : Nat} {us : List Value} (h : OwnsH F e 1 (.slice (slP x 0) l.toNat c.toNat) n us) (hx : -1 ≤ x) {i : Nat} (hi : i < n) (u : Value) :
    0 ≤ x ∧ F.wr x.toNat i 1 = true ∧ F.cell x.toNat i = us[i]? ∧ OwnsH (F.put x.toNat i [u]) e 1 (.slice (slP x 0) l.toNat c.toNat) n (us.set i u) := by
  obtain ⟨hl, h⟩ := h
  rcases h with ⟨_, hn⟩ | ⟨g, cap, cur, hv, hg, hle, hm, hs, ht⟩
  · omega
  · simp only [Value.slice.injEq] at hv
    obtain ⟨hp, hll, hcc⟩ := hv
    have h0 : 0 ≤ x := by
      rcases Int.lt_or_le x 0 with hlt | h0
      · rw [show x = -1 by omega, slP_nil] at hp; cases hp
      · exact h0
    rw [slP_pos h0] at hp
    simp only [Option.some.injEq, Addr.mk.injEq, and_true] at hp
    obtain ⟨hxg, _⟩ := hp
    have hcl : cur.toList.length = cap * 1 := by rw [Array.length_toList]; exact hs
    refine ⟨h0, ?_, ?_, by rw [List.length_set]; exact hl, Or.inr ⟨g, cap, (splice cur.toList i [u]).toArray, ?_, ?_, hle, hm, ?_, ?_⟩⟩
    · rw [hxg]; unfold Hl.wr; rw [hg]; simp; omega
    · rw [hxg, ← ht]; unfold Hl.cell; rw [hg, List.getElem?_take_of_lt (by omega), Array.getElem?_toList]
    · rw [slP_pos h0, hxg, hll, hcc]; rfl
    · unfold Hl.put
      rw [hxg, if_pos rfl, hg]
    · rw [List.size_toArray, splice_length (by rw [hcl]; simp; omega), hcl]
    · apply List.ext_getElem?
      intro j
      have hsp := splice_get (l := cur.toList) (m := [u]) (o := i) (j := j) (by rw [hcl]; simp; omega)
      rw [List.getElem?_set]
      rcases Nat.lt_or_ge j n with hj | hj
      · rw [List.getElem?_take_of_lt (by omega)]
        show (splice cur.toList i [u])[j]? = _
        rw [hsp]
        by_cases e : i = j
        · subst e
          rw [if_pos rfl, if_pos (by simp), if_pos (by omega)]; simp
        · rw [if_neg e, if_neg (by simp; omega), ← ht, List.getElem?_take_of_lt (by omega)]
      · rw [List.getElem?_eq_none (by rw [List.length_take]; omega), if_neg (by omega), List.getElem?_eq_none (by omega)]
theorem OwnsH.own_mem {F : Hl} {e : TypeId} {k : Nat} {v : Value} {n : Nat} {us : List Value} (h : OwnsH F e k v n us) {b : Nat} (hb : v.ownBlock = some b) : F.mem b := by
  rcases h.2 with ⟨h, _⟩ | ⟨gg, cap, cur, h, hg, _⟩
  · rw [h] at hb; cases hb
  · rw [h] at hb
    have : gg = b := by simpa [Value.ownBlock] using hb
    subst this
    unfold Hl.mem; rw [hg]; rfl
theorem OwnsH.unl {a b : Hl} {e : TypeId} {size : Nat} {v : Value} {n : Nat} {xs : List Value} (h : OwnsH a e size v n xs) : OwnsH (a.un b) e size v n xs := by
  refine ⟨h.1, ?_⟩
  rcases h.2 with h | ⟨g, cap, cur, hv, hg, r⟩
  · exact Or.inl h
  · exact Or.inr ⟨g, cap, cur, hv, Hl.un_at_left hg, r⟩
theorem OwnsH.inj {F : Hl} {e : TypeId} {k : Nat} {v : Value} {n m : Nat} {us ws : List Value} (h1 : OwnsH F e k v n us) (h2 : OwnsH F e k v m ws) : n = m ∧ us = ws := by
  obtain ⟨l1, h1⟩ := h1
  obtain ⟨l2, h2⟩ := h2
  rcases h1 with ⟨h1, hn⟩ | ⟨g, cap, cur, h1, hg, _, _, _, ht⟩ <;> rcases h2 with ⟨h2, hm⟩ | ⟨g', cap', cur', h2, hg', _, _, _, ht'⟩
  · subst hn; subst hm
    refine ⟨rfl, ?_⟩
    rw [Nat.zero_mul] at l1 l2
    rw [List.length_eq_zero_iff.1 l1, List.length_eq_zero_iff.1 l2]
  · rw [h1] at h2; cases h2
  · rw [h1] at h2; cases h2
  · rw [h1] at h2
    simp only [Value.slice.injEq, Option.some.injEq, Addr.mk.injEq, and_true] at h2
    obtain ⟨eg, en, _⟩ := h2
    subst eg; subst en
    rw [hg] at hg'
    simp only [Option.some.injEq, Obj.cells.injEq, and_true] at hg'
    rw [← ht, ← ht', hg']
    exact ⟨rfl, rfl⟩
end Go.Sx
namespace Go.Proofs.Ytdohcabnaihaoaa
open Go Go.Sx

theorem own_slP {a y : Int} {l c : Nat} (h : 0 ≤ a) : (Value.slice (slP a y) l c).ownBlock = some a.toNat := by
  rw [slP_pos h]; rfl
/-- Behind an appending no block that was there is the slice's new one. -/
theorem app_new {H : Hl} {x x' : Int} {l c l' c' : Nat} (hx : -1 ≤ x') (h : some x'.toNat = (Value.slice (slP x 0) l c).ownBlock ∨ ¬ H.mem x'.toNat ∨ x' = -1) : ∀ b, H.mem b → some b ≠ (Value.slice (slP x 0) l c).ownBlock → some b ≠ (Value.slice (slP x' 0) l' c').ownBlock := by
  intro b hb hne he
  rcases Int.lt_or_le x' 0 with hn | hn
  · rw [show x' = -1 by omega, slP_nil] at he; cases he
  · rw [own_slP hn] at he
    have he : b = x'.toNat := by simpa using he
    rcases h with h | h | h
    · exact hne (by rw [he]; exact h)
    · rw [← he] at h; exact h hb
    · omega
/-- A row of bytes in a block of its own. -/
def RowO (F : Hl) (o : Option Nat) (u : Value) (r : List Int) : Prop := ∃ (b c : Nat) (cur : Array Value), u = .slice (some ⟨b, 0, none⟩) r.length c ∧ some b ≠ o ∧ F b = some (.cells cur 5 (0, 0)) ∧ cur.toList.take r.length = bys r
theorem RowO.keep {F G : Hl} {o o' : Option Nat} {u : Value} {r : List Int} (h : RowO F o u r) (hk : ∀ b, F.mem b → some b ≠ o → G b = F b) (hn : ∀ b, F.mem b → some b ≠ o → some b ≠ o') : RowO G o' u r := by
  obtain ⟨b, c, cur, hu, hb, hF, ht⟩ := h
  have hm : F.mem b := by unfold Hl.mem; rw [hF]; rfl
  exact ⟨b, c, cur, hu, hn b hm hb, by rw [hk b hm hb]; exact hF, ht⟩
theorem RowO.own {F : Hl} {o : Option Nat} {u : Value} {r : List Int} (h : RowO F o u r) : ∃ b, u.ownBlock = some b ∧ F.mem b ∧ some b ≠ o := by
  obtain ⟨b, c, cur, hu, hb, hF, ht⟩ := h
  exact ⟨b, by rw [hu]; rfl, by unfold Hl.mem; rw [hF]; rfl, hb⟩
theorem RowO.cell {F : Hl} {o : Option Nat} {u : Value} {r : List Int} (h : RowO F o u r) : ∃ b c : Nat, u = .slice (some ⟨b, 0, none⟩) r.length c ∧ F.mem b ∧ ∀ (j : Nat) z, r[j]? = some z → F.cell b j = some (.int .u8 z) := by
  obtain ⟨b, c, cur, hu, hb, hF, ht⟩ := h
  refine ⟨b, c, hu, by unfold Hl.mem; rw [hF]; rfl, fun j z hz => ?_⟩
  have hj := (List.getElem?_eq_some_iff.1 hz).1
  unfold Hl.cell
  rw [hF]
  show cur[j]? = _
  have e1 : (cur.toList.take r.length)[j]? = some (.int .u8 z) := by rw [ht, bys_get, hz]; rfl
  rwa [List.getElem?_take_of_lt hj, Array.getElem?_toList] at e1
/-- Rows of bytes of their own, in a slice of one's own. -/
def RowsO (F : Hl) (v : Value) (rows : List (List Int)) : Prop := ∃ us : List Value, OwnsH F 22 1 v rows.length us ∧
  (∀ (j : Nat) (u : Value) (r : List Int), us[j]? = some u → rows[j]? = some r → RowO F v.ownBlock u r) ∧
  (∀ (i j : Nat) (u w : Value), i ≠ j → us[i]? = some u → us[j]? = some w → u.ownBlock ≠ w.ownBlock)
theorem RowsO.nil (F : Hl) : RowsO F (.slice none 0 0) [] := ⟨[], ⟨rfl, Or.inl ⟨rfl, rfl⟩⟩, (fun j u r h => by simp at h), (fun i j u w _ h => by simp at h)⟩
theorem RowsO.len {F : Hl} {v : Value} {rows : List (List Int)} {us : List Value} (h : OwnsH F 22 1 v rows.length us) : us.length = rows.length := by
  have := h.1; omega
/-- A row is appended. -/
theorem RowsO.snoc {F B G : Hl} {v v' u : Value} {rows : List (List Int)} {r : List Int} (h : RowsO F v rows) (hd : F.dis B) (hu : RowO B none u r)
    (happ : ∀ xs, OwnsH (F.un B) 22 1 v rows.length xs → OwnsH G 22 1 v' (rows.length + 1) (xs ++ [u]))
    (hk : ∀ b, (F.un B).mem b → some b ≠ v.ownBlock → G b = (F.un B) b) (hn : ∀ b, (F.un B).mem b → some b ≠ v.ownBlock → some b ≠ v'.ownBlock) : RowsO G v' (rows ++ [r]) := by
  obtain ⟨us, ho, hr, hne⟩ := h
  have hul := RowsO.len ho
  obtain ⟨ub, eub, hub, _⟩ := hu.own
  have hFu : ¬ F.mem ub := fun hm => hd ub ⟨hm, hub⟩
  have hold : ∀ (j : Nat) (w : Value) (s : List Int), us[j]? = some w → rows[j]? = some s → RowO (F.un B) v.ownBlock w s := fun j w s hj hs =>
    (hr j w s hj hs).keep (fun b hm _ => by obtain ⟨o, ho⟩ := Option.isSome_iff_exists.1 hm; rw [Hl.un_at_left ho, ho]) (fun b _ h => h)
  have hubv : some ub ≠ v.ownBlock := fun e => hFu (ho.own_mem e.symm)
  have hun : RowO (F.un B) v.ownBlock u r := hu.keep (fun b hm _ => by rw [Hl.un_at_right fun h2 => hd b ⟨h2, hm⟩]) fun b hm _ e => hd b ⟨ho.own_mem e.symm, hm⟩
  refine ⟨us ++ [u], ?_, fun j w s hj hs => ?_, fun i j w z hij hi hj => ?_⟩
  · rw [List.length_append, List.length_singleton]
    exact happ us ho.unl
  · rcases Nat.lt_or_ge j us.length with hl | hl
    · rw [List.getElem?_append_left hl] at hj
      rw [List.getElem?_append_left (by omega)] at hs
      exact (hold j w s hj hs).keep hk hn
    · rw [List.getElem?_append_right hl] at hj
      rw [List.getElem?_append_right (by omega)] at hs
      have e : j - us.length = 0 := by
        have := (List.getElem?_eq_some_iff.1 hj).1
        simpa using this
      rw [e] at hj
      rw [show j - rows.length = 0 by omega] at hs
      have hj : u = w := by simpa using hj
      have hs : r = s := by simpa using hs
      subst hj; subst hs
      exact hun.keep hk hn
  · have key : ∀ (k : Nat) (w : Value), us[k]? = some w → w.ownBlock ≠ u.ownBlock := by
      intro k w hw e
      have hk' := (List.getElem?_eq_some_iff.1 hw).1
      obtain ⟨b, eb, hb, _⟩ := (hr k w _ hw (List.getElem?_eq_getElem (by omega))).own
      rw [eb, eub] at e
      have e : b = ub := by simpa using e
      exact hFu (e ▸ hb)
    rcases Nat.lt_or_ge i us.length with hil | hil <;> rcases Nat.lt_or_ge j us.length with hjl | hjl
    · rw [List.getElem?_append_left hil] at hi
      rw [List.getElem?_append_left hjl] at hj
      exact hne i j w z hij hi hj
    · rw [List.getElem?_append_left hil] at hi
      rw [List.getElem?_append_right hjl] at hj
      have hj := List.mem_of_getElem? hj
      rw [List.mem_singleton] at hj
      subst hj
      exact key i w hi
    · rw [List.getElem?_append_left hjl] at hj
      rw [List.getElem?_append_right hil] at hi
      have hi := List.mem_of_getElem? hi
      rw [List.mem_singleton] at hi
      subst hi
      exact fun e => key j z hj e.symm
    · have h1 := (List.getElem?_eq_some_iff.1 hi).1
      have h2 := (List.getElem?_eq_some_iff.1 hj).1
      rw [List.length_append, List.length_singleton] at h1 h2
      omega
/-- What is read of rows. -/
theorem RowsO.at {F : Hl} {x l c : Int} {rows : List (List Int)} (h : RowsO F (.slice (slP x 0) l.toNat c.toNat) rows) (hx : -1 ≤ x) (hl : 0 ≤ l) : l = rows.length ∧ ∀ (i : Nat) r, rows[i]? = some r → 0 ≤ x ∧
    ∃ b c : Nat, F.cell x.toNat i = some (.slice (some ⟨b, 0, none⟩) r.length c) ∧ ∀ (j : Nat) z, r[j]? = some z → F.cell b j = some (.int .u8 z) := by
  obtain ⟨us, ho, hr, hne⟩ := h
  have hul := RowsO.len ho
  refine ⟨?_, fun i r hi => ?_⟩
  · rcases ho.2 with ⟨h, hn⟩ | ⟨g, cap, cur, h, _⟩
    · simp only [Value.slice.injEq] at h; omega
    · simp only [Value.slice.injEq] at h; omega
  · have hi' := (List.getElem?_eq_some_iff.1 hi).1
    obtain ⟨h0, _, hc, _⟩ := ho.put1 hx hi' (.bool true)
    have hu : us[i]? = some us[i] := List.getElem?_eq_getElem (by omega)
    obtain ⟨b, c', hv, _, hcell⟩ := (hr i _ r hu hi).cell
    exact ⟨h0, b, c', by rw [hc, hu, hv], hcell⟩
/-- A new row is put in the place of one. -/
theorem RowsO.put {F B : Hl} {x l c : Int} {u : Value} {rows : List (List Int)} {r : List Int} (h : RowsO F (.slice (slP x 0) l.toNat c.toNat) rows) (hx : -1 ≤ x) (hd : F.dis B) (hu : RowO B none u r) {i : Nat} (hi : i < rows.length) :
    0 ≤ x ∧ (F.un B).wr x.toNat i 1 = true ∧ RowsO ((F.un B).put x.toNat i [u]) (.slice (slP x 0) l.toNat c.toNat) (rows.set i r) := by
  obtain ⟨us, ho, hr, hne⟩ := h
  have hul := RowsO.len ho
  obtain ⟨h0, hw, _, hp⟩ := (OwnsH.unl (b := B) ho).put1 hx hi u
  obtain ⟨ub, eub, hub, _⟩ := hu.own
  have hFu : ¬ F.mem ub := fun hm => hd ub ⟨hm, hub⟩
  have hvx : (Value.slice (slP x 0) l.toNat c.toNat).ownBlock = some x.toNat := own_slP h0
  have hk : ∀ b, (F.un B).mem b → some b ≠ (Value.slice (slP x 0) l.toNat c.toNat).ownBlock → ((F.un B).put x.toNat i [u]) b = (F.un B) b := by
    intro b _ hb
    rw [hvx] at hb
    unfold Hl.put
    rw [if_neg fun e => hb (by rw [e])]
  refine ⟨h0, hw, us.set i u, by rw [List.length_set]; exact hp, fun j w s hj hs => ?_, fun a b w z hab ha hb => ?_⟩
  · rw [List.getElem?_set] at hj hs
    by_cases e : i = j
    · subst e
      rw [if_pos rfl, if_pos (by omega)] at hj hs
      have hj : u = w := by simpa using hj
      have hs : r = s := by simpa using hs
      subst hj; subst hs
      exact (hu.keep (G := F.un B) (o' := (Value.slice (slP x 0) l.toNat c.toNat).ownBlock) (fun b hm _ => by rw [Hl.un_at_right fun h2 => hd b ⟨h2, hm⟩]) fun b hm _ e => hd b ⟨ho.own_mem e.symm, hm⟩).keep hk fun _ _ h => h
    · rw [if_neg e] at hj hs
      exact ((hr j w s hj hs).keep (G := F.un B) (fun b hm _ => by obtain ⟨o, ho⟩ := Option.isSome_iff_exists.1 hm; rw [Hl.un_at_left ho, ho]) (fun b _ h => h)).keep hk fun _ _ h => h
  · have key : ∀ (k : Nat) (w : Value), us[k]? = some w → w.ownBlock ≠ u.ownBlock := by
      intro k w hw e
      have hk' := (List.getElem?_eq_some_iff.1 hw).1
      obtain ⟨b, eb, hb, _⟩ := (hr k w _ hw (List.getElem?_eq_getElem (by omega))).own
      rw [eb, eub] at e
      have e : b = ub := by simpa using e
      exact hFu (e ▸ hb)
    rw [List.getElem?_set] at ha hb
    by_cases e1 : i = a <;> by_cases e2 : i = b
    · omega
    · rw [if_pos e1, if_pos (by omega)] at ha
      rw [if_neg e2] at hb
      have ha : u = w := by simpa using ha
      subst ha
      exact fun e => key b z hb e.symm
    · rw [if_neg e1] at ha
      rw [if_pos e2, if_pos (by omega)] at hb
      have hb : u = z := by simpa using hb
      subst hb
      exact key a w ha
    · rw [if_neg e1] at ha
      rw [if_neg e2] at hb
      exact hne a b w z hab ha hb
/-- A byte of a row is turned. -/
theorem RowsO.byte {F : Hl} {x l c : Int} {rows : List (List Int)} (h : RowsO F (.slice (slP x 0) l.toNat c.toNat) rows) (hx : -1 ≤ x) {i j : Nat} {r : List Int} (hi : rows[i]? = some r) (hj : j < r.length) (z : Int) :
    0 ≤ x ∧ ∃ b c' : Nat, F.cell x.toNat i = some (.slice (some ⟨b, 0, none⟩) r.length c') ∧ F.wr b j 1 = true ∧ RowsO (F.put b j [.int .u8 z]) (.slice (slP x 0) l.toNat c.toNat) (rows.set i (r.set j z)) := by
  obtain ⟨us, ho, hr, hne⟩ := h
  have hul := RowsO.len ho
  have hi' := (List.getElem?_eq_some_iff.1 hi).1
  obtain ⟨h0, _, hc, _⟩ := ho.put1 hx hi' (.bool true)
  have hu : us[i]? = some us[i] := List.getElem?_eq_getElem (by omega)
  obtain ⟨b, c', cur, hv, hb, hF, ht⟩ := hr i _ r hu hi
  have hlen : r.length ≤ cur.toList.length := by
    have := congrArg List.length ht
    rw [List.length_take, bys_length] at this
    omega
  have hlen2 : r.length ≤ cur.size := by rw [← Array.length_toList]; exact hlen
  have hvx : (Value.slice (slP x 0) l.toNat c.toNat).ownBlock = some x.toNat := own_slP h0
  have hbx : b ≠ x.toNat := fun e => hb (by rw [hvx, e])
  have hput : ∀ k, k ≠ b → (F.put b j [.int .u8 z]) k = F k := by
    intro k hk
    unfold Hl.put
    rw [if_neg hk]
  refine ⟨h0, b, c', by rw [hc, hu, hv], ?_, us, ?_, fun k w s hk hs => ?_, hne⟩
  · unfold Hl.wr; rw [hF]; simp; omega
  · rw [List.length_set]
    refine ⟨ho.1, ?_⟩
    rcases ho.2 with h | ⟨g, cap, cur2, h, hg, r2⟩
    · exact Or.inl h
    · refine Or.inr ⟨g, cap, cur2, h, ?_, r2⟩
      rw [h] at hvx
      have : g = x.toNat := by simpa [Value.ownBlock] using hvx
      rw [hput g (by omega)]; exact hg
  · rw [List.getElem?_set] at hs
    by_cases e : i = k
    · subst e
      rw [if_pos rfl, if_pos hi'] at hs
      have hs : r.set j z = s := by simpa using hs
      subst hs
      rw [hu] at hk
      have hk : us[i] = w := by simpa using hk
      subst hk
      refine ⟨b, c', (splice cur.toList j [.int .u8 z]).toArray, by rw [List.length_set]; exact hv, hb, ?_, ?_⟩
      · unfold Hl.put; rw [if_pos rfl, hF]
      · show (splice cur.toList j [.int .u8 z]).take _ = _
        rw [List.length_set]
        apply List.ext_getElem?
        intro m
        rw [bys_get, List.getElem?_set]
        rcases Nat.lt_or_ge m r.length with hm | hm
        · rw [List.getElem?_take_of_lt hm, splice_get (by simp; omega)]
          by_cases e : j = m
          · subst e
            rw [if_pos rfl, if_pos hm, if_pos (by simp)]; simp
          · rw [if_neg e, if_neg (by simp; omega)]
            have := congrArg (fun q => q[m]?) ht
            simp only [bys_get] at this
            rwa [List.getElem?_take_of_lt hm] at this
        · rw [List.getElem?_eq_none (by rw [List.length_take]; omega), if_neg (by omega), List.getElem?_eq_none hm]; rfl
    · rw [if_neg e] at hs
      obtain ⟨b2, c2, cur2, hv2, hb2, hF2, ht2⟩ := hr k w s hk hs
      refine ⟨b2, c2, cur2, hv2, hb2, ?_, ht2⟩
      rw [hput b2 fun e2 => ?_]
      · exact hF2
      · have := hne i k _ w e hu hk
        rw [hv, hv2, e2] at this
        exact this rfl
theorem bys_inj' {a b : List Int} (h : bys a = bys b) : a = b := by
  apply List.ext_getElem?
  intro j
  have := congrArg (fun q => q[j]?) h
  simp only [bys_get] at this
  cases ha : a[j]? <;> cases hb : b[j]? <;> rw [ha, hb] at this <;> simp at this ⊢
  exact this
theorem RowsO.uniq {F : Hl} {v : Value} {a b : List (List Int)} (h1 : RowsO F v a) (h2 : RowsO F v b) : a = b := by
  obtain ⟨us, ho, hr, _⟩ := h1
  obtain ⟨ws, ho', hr', _⟩ := h2
  obtain ⟨el, e⟩ := ho.inj ho'
  subst e
  have hul := RowsO.len ho
  apply List.ext_getElem el
  intro j hj hj'
  have hu : us[j]? = some us[j] := List.getElem?_eq_getElem (by omega)
  obtain ⟨b1, c1, cur1, hv1, _, hF1, ht1⟩ := hr j _ _ hu (List.getElem?_eq_getElem hj)
  obtain ⟨b2, c2, cur2, hv2, _, hF2, ht2⟩ := hr' j _ _ hu (List.getElem?_eq_getElem hj')
  rw [hv1] at hv2
  simp only [Value.slice.injEq, Option.some.injEq, Addr.mk.injEq, and_true] at hv2
  obtain ⟨e1, e2, _⟩ := hv2
  subst e1
  rw [hF1] at hF2
  simp only [Option.some.injEq, Obj.cells.injEq, and_true] at hF2
  subst hF2
  rw [e2, ht2] at ht1
  exact bys_inj' ht1.symm
end Go.Proofs.Ytdohcabnaihaoaa
