/- Layer 8: what a fuse cuts off, and what a crash tears, of a log: plain facts. -/
import Derived.Test.YtnpepkjfeadbjaaCelX
set_option linter.unusedSimpArgs false
set_option linter.unusedVariables false
set_option linter.constructorNameAsVariable false
namespace Go.Proofs.Ytnpepkjfeadbjaa
open Go Go.Sx

/-! ### Torn sectors of two like halves -/
theorem tornI_get (a b : List Int) (k : Int) {j : Nat} (h : j < 64) : (tornI a b k)[j]? = some (if stays k j then b.getD j 0 else a.getD j 0) := by
  unfold tornI
  rw [List.getElem?_map, List.getElem?_range h, Option.map_some]
theorem tornI_getD (a b : List Int) (k : Int) {j : Nat} (h : j < 64) : (tornI a b k).getD j 0 = if stays k j then b.getD j 0 else a.getD j 0 := by
  rw [List.getD_eq_getElem?_getD, tornI_get a b k h]; rfl
theorem two_lo {X : List Int} (h : X.length = 32) {j : Nat} (hj : j < 32) : (X ++ X).getD j 0 = X.getD j 0 := by
  rw [List.getD_eq_getElem?_getD, List.getD_eq_getElem?_getD, List.getElem?_append_left (by omega)]
theorem two_hi {X : List Int} (h : X.length = 32) {j : Nat} : (X ++ X).getD (j + 32) 0 = X.getD j 0 := by
  rw [List.getD_eq_getElem?_getD, List.getD_eq_getElem?_getD, List.getElem?_append_right (by omega), h, Nat.add_sub_cancel]
theorem two_ext {S X : List Int} (hS : S.length = 64) (hX : X.length = 32) (h1 : ∀ j, j < 32 → S.getD j 0 = X.getD j 0) (h2 : ∀ j, j < 32 → S.getD (j + 32) 0 = X.getD j 0) : S = X ++ X := by
  apply List.ext_getElem?
  intro j
  have key : j < 64 → S.getD j 0 = (X ++ X).getD j 0 := by
    intro hj
    rcases Nat.lt_or_ge j 32 with h | h
    · rw [h1 j h, two_lo hX h]
    · obtain ⟨i, rfl⟩ : ∃ i, j = i + 32 := ⟨j - 32, by omega⟩
      rw [h2 i (by omega), two_hi hX]
  rcases Nat.lt_or_ge j 64 with h | h
  · have e := key h
    rw [List.getD_eq_getElem?_getD, List.getD_eq_getElem?_getD, List.getElem?_eq_getElem (by omega), List.getElem?_eq_getElem (by rw [List.length_append]; omega)] at e
    rw [List.getElem?_eq_getElem (by omega), List.getElem?_eq_getElem (by rw [List.length_append]; omega)]
    exact congrArg some e
  · rw [List.getElem?_eq_none (by omega), List.getElem?_eq_none (by rw [List.length_append]; omega)]
theorem torn_like {X h : List Int} (hX : X.length = 32) (hh : h.length = 32) (k : Int) (e : (tornI (X ++ X) (h ++ h) k).take 32 = (tornI (X ++ X) (h ++ h) k).drop 32) : tornI (X ++ X) (h ++ h) k = X ++ X ∨ tornI (X ++ X) (h ++ h) k = h ++ h := by
  have hl : (tornI (X ++ X) (h ++ h) k).length = 64 := tornI_length _ _ _
  have lk : ∀ j, j < 32 → (tornI (X ++ X) (h ++ h) k).getD j 0 = (tornI (X ++ X) (h ++ h) k).getD (j + 32) 0 := by
    intro j hj
    have e1 : ((tornI (X ++ X) (h ++ h) k).take 32)[j]? = ((tornI (X ++ X) (h ++ h) k).drop 32)[j]? := congrArg (fun z : List Int => z[j]?) e
    rw [List.getElem?_take, if_pos hj, List.getElem?_drop] at e1
    rw [List.getD_eq_getElem?_getD, List.getD_eq_getElem?_getD, e1, Nat.add_comm 32 j]
  have lo : ∀ j, j < 32 → (tornI (X ++ X) (h ++ h) k).getD j 0 = if stays k j then h.getD j 0 else X.getD j 0 := fun j hj => by
    rw [tornI_getD _ _ _ (by omega), two_lo hX hj, two_lo hh hj]
  have hi : ∀ j, j < 32 → (tornI (X ++ X) (h ++ h) k).getD (j + 32) 0 = if stays k (j + 32) then h.getD j 0 else X.getD j 0 := fun j hj => by
    rw [tornI_getD _ _ _ (by omega), two_hi hX, two_hi hh]
  have four : (∀ j, j < 32 → stays k j = false) ∨ (∀ j, j < 32 → stays k (j + 32) = false) ∨ (∀ j, j < 32 → stays k j = true) ∨ (∀ j, j < 32 → stays k (j + 32) = true) := by
    by_cases h1 : k < 128
    · by_cases h2 : k ≤ 32
      · refine Or.inr (Or.inl fun j hj => ?_)
        unfold stays; rw [if_pos h1]; simp; omega
      · refine Or.inr (Or.inr (Or.inl fun j hj => ?_))
        unfold stays; rw [if_pos h1]; simp; omega
    · by_cases h2 : 64 - (k - 128) ≤ 32
      · refine Or.inr (Or.inr (Or.inr fun j hj => ?_))
        unfold stays; rw [if_neg h1]; simp; omega
      · refine Or.inl fun j hj => ?_
        unfold stays; rw [if_neg h1]; simp; omega
  rcases four with f | f | f | f
  · refine Or.inl (two_ext hl hX (fun j hj => ?_) (fun j hj => ?_))
    · rw [lo j hj, f j hj]; rfl
    · rw [← lk j hj, lo j hj, f j hj]; rfl
  · refine Or.inl (two_ext hl hX (fun j hj => ?_) (fun j hj => ?_))
    · rw [lk j hj, hi j hj, f j hj]; rfl
    · rw [hi j hj, f j hj]; rfl
  · refine Or.inr (two_ext hl hh (fun j hj => ?_) (fun j hj => ?_))
    · rw [lo j hj, f j hj]; rfl
    · rw [← lk j hj, lo j hj, f j hj]; rfl
  · refine Or.inr (two_ext hl hh (fun j hj => ?_) (fun j hj => ?_))
    · rw [lk j hj, hi j hj, f j hj]; rfl
    · rw [hi j hj, f j hj]; rfl
theorem torn_torn (a b c : List Int) (k : Int) : tornI (tornI a b k) c k = tornI a c k := by
  apply List.ext_getElem?
  intro j
  rcases Nat.lt_or_ge j 64 with h | h
  · rw [tornI_get _ _ _ h, tornI_get _ _ _ h, tornI_getD _ _ _ h]
    cases stays k j <;> rfl
  · rw [List.getElem?_eq_none (by rw [tornI_length]; omega), List.getElem?_eq_none (by rw [tornI_length]; omega)]
theorem torn_self {a : List Int} (ha : a.length = 64) (k : Int) : tornI a a k = a := by
  apply List.ext_getElem?
  intro j
  rcases Nat.lt_or_ge j 64 with h | h
  · rw [tornI_get _ _ _ h]
    rw [List.getElem?_eq_getElem (by omega), List.getD_eq_getElem?_getD, List.getElem?_eq_getElem (by omega)]
    cases stays k j <;> rfl
  · rw [List.getElem?_eq_none (by rw [tornI_length]; omega), List.getElem?_eq_none (by omega)]

/-! ### Fuses -/
/-- What is loose agrees below a place with what stands there. -/
structure Soft (D : DM) (B : Nat) : Prop where
  ok : D.ok
  byte : byteL D.now
  old : ∀ p ∈ D.loose, byteL p.2 ∧ ∀ j, j < 64 → 64 * p.1.toNat + j < B → p.2[j]? = D.now[64 * p.1.toNat + j]?
theorem Soft.gone {D : DM} {B : Nat} (h : Soft D B) : Soft { D with gone := true } B := ⟨⟨h.ok.now, h.ok.n, h.ok.f0, h.ok.f1, h.ok.loose⟩, h.byte, h.old⟩
theorem sector_byte {D : DM} (h : byteL D.now) (i : Int) : byteL (D.sector i) := fun b hb => by
  unfold DM.sector at hb
  exact h b (List.mem_of_mem_drop (List.mem_of_mem_take hb))
theorem writeR_any {D : DM} (hg : D.gone = false) {i : Int} (hi : D.has i = true) {bs : List Int} (hb : bs.length = 64) : writeR D i bs = (5, { D with gone := true }) ∨ writeR D i bs = (0, putD D i bs) := by
  unfold writeR
  rw [if_neg (by rw [hi, hb]; simp), if_neg (by rw [hg]; simp)]
  split
  · exact Or.inl rfl
  · exact Or.inr rfl
theorem fuse_dec {D : DM} (h : D.ok) : -1 ≤ (if 0 < D.fuse then D.fuse - 1 else D.fuse) ∧ (if 0 < D.fuse then D.fuse - 1 else D.fuse) ≤ 9223372036854775807 := by
  have := h.f0
  have := h.f1
  split <;> omega
theorem syncR_any {D : DM} (h : D.ok) (hg : D.gone = false) : syncR D = (5, { D with gone := true }) ∨ ∃ E : DM, syncR D = (0, E) ∧ E.ok ∧ E.gone = false ∧ E.now = D.now ∧ E.n = D.n ∧ E.loose = [] := by
  unfold syncR
  rw [if_neg (by rw [hg]; simp)]
  split
  · exact Or.inl rfl
  · refine Or.inr ⟨_, rfl, ⟨h.now, h.n, (fuse_dec h).1, (fuse_dec h).2, fun p hp => by cases hp⟩, hg, rfl, rfl, rfl⟩
theorem putD_soft {D : DM} {B : Nat} (h : Soft D B) {i : Int} (hi : D.has i = true) {bs : List Int} (hb : bs.length = 64) (hbb : byteL bs) (hs : ∀ j, j < 64 → 64 * i.toNat + j < B → bs[j]? = D.now[64 * i.toNat + j]?) :
    Soft (putD D i bs) B ∧ ∀ j, j < B → (putD D i bs).now[j]? = D.now[j]? := by
  have gp := putD_get h.ok hi hb
  have same : ∀ j, j < B → (putD D i bs).now[j]? = D.now[j]? := by
    intro j hj
    rw [gp]
    split
    · rename_i hh
      rw [hs _ (by omega) (by omega)]
      congr 1; omega
    · rfl
  refine ⟨⟨putD_ok h.ok hi hb, fun b hb' => ?_, fun p hp => ?_⟩, same⟩
  · rcases splice_mem hb' with hb' | hb'
    · exact h.byte b hb'
    · exact hbb b hb'
  · have hp : p ∈ (if (mapGo i (lv D.loose) 0).isSome then D.loose else D.loose ++ [(i, D.sector i)]) := hp
    have hor : p ∈ D.loose ∨ p = (i, D.sector i) := by
      split at hp
      · exact Or.inl hp
      · rcases List.mem_append.1 hp with hp | hp
        · exact Or.inl hp
        · exact Or.inr (by simpa using hp)
    rcases hor with hp | rfl
    · obtain ⟨a, b⟩ := h.old p hp
      exact ⟨a, fun j hj hB => by rw [same _ hB]; exact b j hj hB⟩
    · refine ⟨sector_byte h.byte i, fun j hj hB => ?_⟩
      rw [same _ hB]
      exact sector_get h.ok hi hj
theorem putD_loose {D : DM} (i : Int) (bs : List Int) : (putD D i bs).loose.length ≤ D.loose.length + 1 := by
  show (if (mapGo i (lv D.loose) 0).isSome then D.loose else D.loose ++ [(i, D.sector i)]).length ≤ _
  split <;> simp
/-- Sectors are written, under a fuse. -/
theorem fillGo_any (frm : Nat) (all : List Int) (ha : byteL all) (B : Nat) (hB : B ≤ 64 * (frm + 2) + all.length) : ∀ (f i : Nat) (D : DM), Soft D B → D.gone = false → all.length + 64 * (frm + 2) ≤ 64 * D.n → all.length + 1 ≤ f + i →
    (∀ t, 64 * i ≤ t → 64 * (frm + 2) + t < B → D.now[64 * (frm + 2) + t]? = all[t]?) →
    Soft (fillGo frm all f i D).2 B ∧ (fillGo frm all f i D).2.n = D.n ∧ (fillGo frm all f i D).2.loose.length ≤ D.loose.length + f ∧ (∀ j, j < B → (fillGo frm all f i D).2.now[j]? = D.now[j]?) ∧ (∀ j, j < 64 * (frm + 2 + i) → (fillGo frm all f i D).2.now[j]? = D.now[j]?) ∧
    (((fillGo frm all f i D).1 = 0 ∧ (fillGo frm all f i D).2.gone = false ∧ (fillGo frm all f i D).2.loose = [] ∧ ∀ t, 64 * i ≤ t → t < all.length → (fillGo frm all f i D).2.now[64 * (frm + 2) + t]? = all[t]?) ∨ (fillGo frm all f i D).1 = 5) := by
  intro f
  have sync : ∀ (g i : Nat) (D : DM), Soft D B → D.gone = false → all.length ≤ 64 * i →
      Soft (syncR D).2 B ∧ (syncR D).2.n = D.n ∧ (syncR D).2.loose.length ≤ D.loose.length + g ∧ (∀ j, j < B → (syncR D).2.now[j]? = D.now[j]?) ∧ (∀ j, j < 64 * (frm + 2 + i) → (syncR D).2.now[j]? = D.now[j]?) ∧
      (((syncR D).1 = 0 ∧ (syncR D).2.gone = false ∧ (syncR D).2.loose = [] ∧ ∀ t, 64 * i ≤ t → t < all.length → (syncR D).2.now[64 * (frm + 2) + t]? = all[t]?) ∨ (syncR D).1 = 5) := by
    intro g i D h hg hi
    rcases syncR_any h.ok hg with e | ⟨E, e, o1, o2, o3, o4, o5⟩
    · rw [e]
      exact ⟨h.gone, rfl, by show D.loose.length ≤ _; omega, fun j _ => rfl, fun j _ => rfl, Or.inr rfl⟩
    · rw [e]
      exact ⟨⟨o1, by rw [o3]; exact h.byte, fun p hp => by rw [o5] at hp; cases hp⟩, o4, by rw [o5]; simp, fun j _ => by rw [o3], fun j _ => by rw [o3], Or.inl ⟨rfl, o2, o5, fun t h1 h2 => by omega⟩⟩
  induction f with
  | zero =>
    intro i D h hg h1 h2 h3
    exact sync 0 i D h hg (by omega)
  | succ f ih =>
    intro i D h hg h1 h2 h3
    by_cases hlt : 64 * i < all.length
    · have hi : D.has ((frm : Int) + 2 + i) = true := by unfold DM.has; simp only [decide_eq_true_eq]; omega
      have et : ((frm : Int) + 2 + i).toNat = frm + 2 + i := by omega
      have e0 : fillGo frm all (f + 1) i D = if (writeR D (frm + 2 + i) (secA all i)).1 ≠ 0 then writeR D (frm + 2 + i) (secA all i) else fillGo frm all f (i + 1) (writeR D (frm + 2 + i) (secA all i)).2 := by
        show (if 64 * i < all.length then _ else _) = _
        rw [if_pos hlt]
      rcases writeR_any hg hi (secA_length all i) with e | e
      · rw [e] at e0
        have e0 : fillGo frm all (f + 1) i D = (5, { D with gone := true }) := by rw [e0, if_pos (by simp)]
        rw [e0]
        exact ⟨h.gone, rfl, by show D.loose.length ≤ _; omega, fun j _ => rfl, fun j _ => rfl, Or.inr rfl⟩
      · rw [e] at e0
        have e0 : fillGo frm all (f + 1) i D = fillGo frm all f (i + 1) (putD D (frm + 2 + i) (secA all i)) := by rw [e0, if_neg (by simp)]
        rw [e0]
        obtain ⟨hS, hsame⟩ := putD_soft h hi (secA_length all i) (secA_byte ha i) (fun j hj hjB => by
          rw [et] at hjB ⊢
          rw [secA_get all i j hj (by omega), show 64 * (frm + 2 + i) + j = 64 * (frm + 2) + (64 * i + j) by omega]
          exact (h3 _ (by omega) (by omega)).symm)
        have gp := putD_get h.ok hi (secA_length all i)
        obtain ⟨a1, a2, a3, a4, a5, a6⟩ := ih (i + 1) _ hS rfl h1 (by omega) (fun t ht htB => by rw [hsame _ htB]; exact h3 t (by omega) htB)
        have hlo := putD_loose (D := D) (frm + 2 + i) (secA all i)
        refine ⟨a1, a2, by omega, fun j hj => by rw [a4 j hj, hsame j hj], fun j hj => by rw [a5 j (by omega), gp, et, if_neg (by omega)], ?_⟩
        rcases a6 with ⟨b1, b2, b3, b4⟩ | b
        · refine Or.inl ⟨b1, b2, b3, fun t ht ht' => ?_⟩
          rcases Nat.lt_or_ge t (64 * (i + 1)) with h4 | h4
          · rw [a5 _ (by omega), gp, et, if_pos (by omega), secA_get all i _ (by omega) (by omega)]
            congr 1; omega
          · exact b4 t h4 ht'
        · exact Or.inr b
    · have e : fillGo frm all (f + 1) i D = syncR D := by
        show (if 64 * i < all.length then _ else _) = _
        rw [if_neg hlt]
      rw [e]
      exact sync (f + 1) i D h hg (by omega)
/-! ### Crashes -/
theorem wasOf_mem {loose : List (Int × List Int)} {k : Int} (h : ∃ p ∈ loose, p.1 = k) : (k, wasOf loose k) ∈ loose := by
  unfold wasOf
  cases hf : loose.find? (fun p => p.1 == k) with
  | none =>
    obtain ⟨p, hp, e⟩ := h
    have := List.find?_eq_none.1 hf p hp
    simp [e] at this
  | some p =>
    have h1 := List.mem_of_find?_eq_some hf
    have h2 := List.find?_some hf
    have h2 : p.1 = k := by simpa using h2
    obtain ⟨a, b⟩ := p
    simp only at h2
    subst h2
    exact h1
theorem crash_soft {D : DM} {B : Nat} (h : Soft D B) (fate : List Int) : Sure (crashD D fate) ∧ (crashD D fate).loose = [] ∧ byteL (crashD D fate).now ∧ (crashD D fate).n = D.n ∧ ∀ j, j < B → (crashD D fate).now[j]? = D.now[j]? := by
  have hks : ∀ k ∈ sortK (D.loose.map (·.1)), ∃ p ∈ D.loose, p.1 = k := fun k hk => by
    obtain ⟨p, hp, e⟩ := List.mem_map.1 (sortK_mem.1 hk)
    exact ⟨p, hp, e⟩
  have hrg : ∀ k ∈ sortK (D.loose.map (·.1)), 0 ≤ k ∧ k < D.n := fun k hk => by
    obtain ⟨p, hp, rfl⟩ := hks k hk
    exact (h.ok.loose p hp).2
  have key : ∀ i, i ≤ (sortK (D.loose.map (·.1))).length → byteL (crashN D.loose fate D.now (sortK (D.loose.map (·.1))) i) ∧ ∀ j, j < B → (crashN D.loose fate D.now (sortK (D.loose.map (·.1))) i)[j]? = D.now[j]? := by
    intro i
    induction i with
    | zero => exact fun _ => ⟨h.byte, fun j _ => rfl⟩
    | succ i ih =>
      intro hi
      obtain ⟨ib, ij⟩ := ih (by omega)
      have hm : (sortK (D.loose.map (·.1))).getD i 0 ∈ sortK (D.loose.map (·.1)) := by
        rw [List.getD_eq_getElem?_getD, List.getElem?_eq_getElem (by omega), Option.getD_some]
        exact List.getElem_mem _
      have hl := crashN_length h.ok fate _ hrg i (by omega)
      obtain ⟨k, hk⟩ : ∃ k, k = (sortK (D.loose.map (·.1))).getD i 0 := ⟨_, rfl⟩
      rw [← hk] at hm
      obtain ⟨cur, hcur⟩ : ∃ c, c = crashN D.loose fate D.now (sortK (D.loose.map (·.1))) i := ⟨_, rfl⟩
      rw [← hcur] at ib ij hl
      have e : crashN D.loose fate D.now (sortK (D.loose.map (·.1))) (i + 1) = splice cur (64 * k.toNat) (tornI (wasOf D.loose k) (secOf cur k) (fateAt fate i)) := by rw [hk, hcur]; rfl
      rw [e]
      obtain ⟨ob, oj⟩ := h.old _ (wasOf_mem (hks k hm))
      have ob : byteL (wasOf D.loose k) := ob
      have oj : ∀ j, j < 64 → 64 * k.toNat + j < B → (wasOf D.loose k)[j]? = D.now[64 * k.toNat + j]? := oj
      obtain ⟨k0, k1⟩ := hrg k hm
      have hsg : ∀ j, j < 64 → (secOf cur k)[j]? = cur[64 * k.toNat + j]? := fun j hj => by
        unfold secOf
        rw [List.getElem?_take_of_lt hj, List.getElem?_drop]
      refine ⟨fun b hb => ?_, fun j hj => ?_⟩
      · rcases splice_mem hb with hb | hb
        · exact ib b hb
        · unfold tornI at hb
          obtain ⟨j, hj, rfl⟩ := List.mem_map.1 hb
          have gd : ∀ l : List Int, byteL l → 0 ≤ l.getD j 0 ∧ l.getD j 0 < 256 := fun l hl => by
            rw [List.getD_eq_getElem?_getD]
            cases hg : l[j]? with
            | none => exact ⟨Int.le_refl _, by decide⟩
            | some z => exact hl z (List.mem_of_getElem? hg)
          split
          · exact gd _ fun z hz => ib z (List.mem_of_mem_drop (List.mem_of_mem_take hz))
          · exact gd _ ob
      · rw [Sx.splice_get (by rw [tornI_length, hl]; omega), tornI_length]
        split
        · rename_i hh
          have hq : j - 64 * k.toNat < 64 := by omega
          have h1 := ij j hj
          have h2 := oj (j - 64 * k.toNat) hq (by omega)
          have h3 := hsg (j - 64 * k.toNat) hq
          rw [show 64 * k.toNat + (j - 64 * k.toNat) = j by omega] at h2 h3
          have hlt : j < D.now.length := by rw [h.ok.now]; omega
          rw [tornI_get _ _ _ hq, List.getElem?_eq_getElem hlt, List.getD_eq_getElem?_getD, List.getD_eq_getElem?_getD, h2, h3, h1, List.getElem?_eq_getElem hlt]
          cases stays (fateAt fate i) (j - 64 * k.toNat) <;> rfl
        · exact ij j hj
  have hl : (sortK (D.loose.map (·.1))).length = D.loose.length := by rw [sortK_length, List.length_map]
  obtain ⟨a, b⟩ := key D.loose.length (by omega)
  exact ⟨⟨crashD_ok h.ok fate, rfl, rfl⟩, rfl, a, rfl, b⟩
theorem sortK_one (x : Int) : sortK [x] = [x] := List.mergeSort_singleton x
/-- One loose sector is torn. -/
theorem crash_one {D : DM} {i : Int} {old : List Int} (h : D.loose = [(i, old)]) (fate : List Int) : (crashD D fate).now = splice D.now (64 * i.toNat) (tornI old (secOf D.now i) (fateAt fate 0)) := by
  show crashN D.loose fate D.now (sortK (D.loose.map (·.1))) D.loose.length = _
  rw [h]
  show crashN [(i, old)] fate D.now (sortK [i]) 1 = _
  rw [sortK_one]
  show splice D.now (64 * i.toNat) (tornI (wasOf [(i, old)] i) (secOf D.now i) (fateAt fate 0)) = _
  have e : wasOf [(i, old)] i = old := by unfold wasOf; simp
  rw [e]
/-- What was in a sector is there when the disk is as it was there. -/
theorem sector_eq {D : DM} {i : Int} {S : List Int} (hS : S.length = 64) (h : ∀ j, j < 64 → D.now[64 * i.toNat + j]? = S[j]?) : D.sector i = S := by
  unfold DM.sector
  apply List.ext_getElem?
  intro j
  rw [List.getElem?_take]
  split
  · rename_i hj
    rw [List.getElem?_drop, h j hj]
  · rw [List.getElem?_eq_none (by omega)]

/-! ### A log under fuses and crashes -/
/-- What a log's sectors tell: a head, and another, that is older, or torn. -/
structure Torn (D : DM) (frm : Nat) (n fk : Int) (s : Nat) : Prop where
  mir : Mir D frm n
  ser : (openH D frm n).getD 0 0 = s
  cur : ∃ C : List Int, C.length = 32 ∧ D.sector ((frm : Int) + ((s % 2 : Nat) : Int)) = C ++ C ∧ bigI (C.take 8) = s
  at_ : (lreadR D frm (64 * (n - 2)) ((s % 2 : Nat) : Int)).1 = openH D frm n
  oth : ∃ X Y : List Int, X.length = 32 ∧ Y.length = 32 ∧ D.sector ((frm : Int) + (((s + 1) % 2 : Nat) : Int)) = tornI (X ++ X) (Y ++ Y) fk ∧
    ((tornI (X ++ X) (Y ++ Y) fk).take 32 = (tornI (X ++ X) (Y ++ Y) fk).drop 32 → tornI (X ++ X) (Y ++ Y) fk = X ++ X) ∧ bigI (X.take 8) ≤ s
theorem other_lt {D : DM} (h : Sure D) {frm : Nat} {most : Int} {s : Nat} (hi : D.has ((frm : Int) + (((s + 1) % 2 : Nat) : Int)) = true) {X S : List Int} (hX : X.length = 32) (hS : D.sector ((frm : Int) + (((s + 1) % 2 : Nat) : Int)) = S) (hl : S.take 32 = S.drop 32 → S = X ++ X) (hb : bigI (X.take 8) ≤ s) :
    (lreadR D frm most (((s + 1) % 2 : Nat) : Int)).1.getD 0 0 < s ∨ (lreadR D frm most (((s + 1) % 2 : Nat) : Int)).1.getD 0 0 = 0 := by
  rw [lread_sector h hi, hS]
  split
  · rename_i hg
    obtain ⟨g1, g2, g3⟩ := hg
    have e := hl g1
    have ht : S.take 32 = X := by rw [e, List.take_left' hX]
    rw [ht] at g2
    refine Or.inl ?_
    show (headI (S.take 32)).getD 0 0 < _
    rw [ht]
    show bigI (X.take 8) < _
    rcases Int.lt_or_le (bigI (X.take 8)) s with h1 | h1
    · exact h1
    · have e2 : bigI (X.take 8) = s := by omega
      rw [e2, Int.tmod_eq_emod_of_nonneg (by omega)] at g2
      omega
  · exact Or.inr rfl
theorem openH_of {D : DM} {frm : Nat} {n : Int} {s : Nat} {H : List Int} (hc : (lreadR D frm (64 * (n - 2)) ((s % 2 : Nat) : Int)).1 = H) (h0 : H.getD 0 0 = s)
    (ho : (lreadR D frm (64 * (n - 2)) (((s + 1) % 2 : Nat) : Int)).1.getD 0 0 < s ∨ (lreadR D frm (64 * (n - 2)) (((s + 1) % 2 : Nat) : Int)).1.getD 0 0 = 0) : openH D frm n = H := by
  unfold openH
  rcases Nat.mod_two_eq_zero_or_one s with e | e
  · have e' : (s + 1) % 2 = 1 := by omega
    rw [e] at hc
    rw [e'] at ho
    have hc : (lreadR D frm (64 * (n - 2)) 0).1 = H := hc
    have ho : (lreadR D frm (64 * (n - 2)) 1).1.getD 0 0 < s ∨ (lreadR D frm (64 * (n - 2)) 1).1.getD 0 0 = 0 := ho
    rw [hc, h0, if_neg (by omega)]
  · have e' : (s + 1) % 2 = 0 := by omega
    rw [e] at hc
    rw [e'] at ho
    have hc : (lreadR D frm (64 * (n - 2)) 1).1 = H := hc
    have ho : (lreadR D frm (64 * (n - 2)) 0).1.getD 0 0 < s ∨ (lreadR D frm (64 * (n - 2)) 0).1.getD 0 0 = 0 := ho
    rw [hc, h0, if_pos (by omega)]
theorem Torn.has {D : DM} {frm : Nat} {n : Int} (h : Mir D frm n) {q : Nat} (hq : q < 2) : D.has ((frm : Int) + (q : Int)) = true := by
  obtain ⟨r1, r2⟩ := h.rng
  unfold DM.has; simp only [decide_eq_true_eq]; omega
/-- The log stays as it was. -/
theorem Torn.stay {D E : DM} {frm : Nat} {n fk : Int} {s : Nat} (h : Torn D frm n fk s) (hM : Mir E frm n)
    (hsame : ∀ j, j < 64 * (frm + 2) + (openB D frm n).length → ¬ (64 * (frm + (s + 1) % 2) ≤ j ∧ j < 64 * (frm + (s + 1) % 2) + 64) → E.now[j]? = D.now[j]?)
    {X Y : List Int} (hX : X.length = 32) (hY : Y.length = 32) (hS : E.sector ((frm : Int) + (((s + 1) % 2 : Nat) : Int)) = tornI (X ++ X) (Y ++ Y) fk)
    (hl : (tornI (X ++ X) (Y ++ Y) fk).take 32 = (tornI (X ++ X) (Y ++ Y) fk).drop 32 → tornI (X ++ X) (Y ++ Y) fk = X ++ X) (hb : bigI (X.take 8) ≤ s) :
    Torn E frm n fk s ∧ openH E frm n = openH D frm n ∧ openB E frm n = openB D frm n := by
  obtain ⟨r1, r2⟩ := h.mir.rng
  have hsec : E.sector ((frm : Int) + ((s % 2 : Nat) : Int)) = D.sector ((frm : Int) + ((s % 2 : Nat) : Int)) := by
    refine sector_same fun j h1 h2 => hsame j (by omega) (by omega)
  have hiD := Torn.has h.mir (q := s % 2) (by omega)
  have hiE := Torn.has hM (q := s % 2) (by omega)
  have hrd : lreadR E frm (64 * (n - 2)) ((s % 2 : Nat) : Int) = lreadR D frm (64 * (n - 2)) ((s % 2 : Nat) : Int) := by
    rw [lread_sector h.mir.sure hiD, lread_sector hM.sure hiE, hsec]
  have hc : (lreadR E frm (64 * (n - 2)) ((s % 2 : Nat) : Int)).1 = openH D frm n := by rw [hrd]; exact h.at_
  have hH : openH E frm n = openH D frm n := openH_of hc h.ser (other_lt hM.sure (Torn.has hM (by omega)) hX hS hl hb)
  have hB : openB E frm n = openB D frm n := by
    have hlen := h.mir.len
    have hsz : (openL E frm n).size = (openL D frm n).size := by
      show (openH E frm n).getD 1 0 = (openH D frm n).getD 1 0
      rw [hH]
    have hsD : (openL D frm n).size = ((openB D frm n).length : Nat) := hlen.symm
    unfold openB bytesAt
    rw [hsz, hsD, Int.toNat_natCast]
    apply List.ext_getElem?
    intro t
    rw [List.getElem?_take, List.getElem?_take]
    split
    · rename_i ht
      rw [List.getElem?_drop, List.getElem?_drop]
      exact hsame _ (by omega) (by omega)
    · rfl
  refine ⟨⟨hM, by rw [hH]; exact h.ser, ?_, by rw [hH]; exact hc, X, Y, hX, hY, hS, hl, hb⟩, hH, hB⟩
  obtain ⟨C, c1, c2, c3⟩ := h.cur
  exact ⟨C, c1, by rw [hsec]; exact c2, c3⟩
/-- The log is what it was to become. -/
theorem Torn.next {D E : DM} {frm : Nat} {n fk : Int} {s : Nat} (h : Torn D frm n fk s) (hM : Mir E frm n) (hs : s < 4611686018427387904) {all nt : List Int} (ha : (all.length : Int) ≤ 64 * (n - 2)) (hnt : nt.length = 16)
    (hsame : ∀ j, 64 * (frm + s % 2) ≤ j → j < 64 * (frm + s % 2) + 64 → E.now[j]? = D.now[j]?)
    (hall : ∀ t, t < all.length → E.now[64 * (frm + 2) + t]? = all[t]?)
    (hS : E.sector ((frm : Int) + (((s + 1) % 2 : Nat) : Int)) = halfL (((s : Int) + 1) :: (all.length : Int) :: nt) ++ halfL (((s : Int) + 1) :: (all.length : Int) :: nt)) :
    Torn E frm n fk (s + 1) ∧ openH E frm n = ((s : Int) + 1) :: (all.length : Int) :: nt ∧ openB E frm n = all := by
  obtain ⟨r1, r2⟩ := h.mir.rng
  have hDn := h.mir.sure.ok.n
  obtain ⟨N, hN⟩ : ∃ N, N = ((s : Int) + 1) :: (all.length : Int) :: nt := ⟨_, rfl⟩
  rw [← hN] at hS ⊢
  obtain ⟨b1, b2, b3, b4⟩ := half_head (a := (s : Int) + 1) (b := (all.length : Int)) (nt := nt) ⟨by omega, by omega⟩ ⟨by omega, by omega⟩ hnt
  rw [← hN] at b1 b2 b3 b4
  have hsec : E.sector ((frm : Int) + ((s % 2 : Nat) : Int)) = D.sector ((frm : Int) + ((s % 2 : Nat) : Int)) := by
    refine sector_same fun j h1 h2 => hsame j (by omega) (by omega)
  have hiD := Torn.has h.mir (q := s % 2) (by omega)
  have hiE := Torn.has hM (q := s % 2) (by omega)
  have hiP := Torn.has hM (q := (s + 1) % 2) (by omega)
  have hrd : lreadR E frm (64 * (n - 2)) ((s % 2 : Nat) : Int) = lreadR D frm (64 * (n - 2)) ((s % 2 : Nat) : Int) := by
    rw [lread_sector h.mir.sure hiD, lread_sector hM.sure hiE, hsec]
  have e2 : (s + 1 + 1) % 2 = s % 2 := by omega
  have hN0 : N.getD 0 0 = ((s + 1 : Nat) : Int) := by rw [hN]; rfl
  have ht : (halfL N ++ halfL N).take 32 = halfL N := by rw [List.take_left' b1]
  have hdr : (halfL N ++ halfL N).drop 32 = halfL N := by rw [List.drop_left' b1]
  have hc : (lreadR E frm (64 * (n - 2)) (((s + 1) % 2 : Nat) : Int)).1 = N := by
    rw [lread_sector hM.sure hiP, hS, if_pos, ht, b2, hN]
    unfold goodH
    rw [ht, hdr, b3, b4]
    exact ⟨rfl, by rw [Int.tmod_eq_emod_of_nonneg (by omega)]; omega, ha⟩
  have hH : openH E frm n = N := by
    refine openH_of (s := s + 1) hc hN0 (Or.inl ?_)
    rw [e2, hrd, h.at_, h.ser]; omega
  have hB : openB E frm n = all := by
    have hsz : (openL E frm n).size = (all.length : Nat) := by
      show (openH E frm n).getD 1 0 = _
      rw [hH, hN]; rfl
    unfold openB bytesAt
    rw [hsz, Int.toNat_natCast]
    apply List.ext_getElem?
    intro t
    rw [List.getElem?_take]
    split
    · rename_i ht
      rw [List.getElem?_drop, show 64 * ((frm : Int) + 2).toNat + t = 64 * (frm + 2) + t by omega]
      exact hall t ht
    · rw [List.getElem?_eq_none (by omega)]
  obtain ⟨C, c1, c2, c3⟩ := h.cur
  refine ⟨⟨hM, by rw [hH]; exact hN0, ⟨halfL N, b1, hS, by rw [b3]; rfl⟩, by rw [hH]; exact hc, C, C, c1, c1, ?_, fun _ => torn_self (by rw [List.length_append, c1]) fk, by omega⟩, hH, hB⟩
  rw [e2, hsec, c2, torn_self (by rw [List.length_append, c1])]
/-- The log is what it was to become, or is as it was. -/
def Goes (E : DM) (frm : Nat) (n fk : Int) (s : Nat) (all nt : List Int) : Prop := Torn E frm n fk (s + 1) ∧ (openL E frm n).serial = ((s + 1 : Nat) : Int) ∧ (openL E frm n).note = nt ∧ openB E frm n = all
def Stays (D E : DM) (frm : Nat) (n fk : Int) (s : Nat) : Prop := Torn E frm n fk s ∧ openL E frm n = openL D frm n ∧ openB E frm n = openB D frm n
theorem Torn.keep {D G : DM} {frm : Nat} {n fk : Int} {s : Nat} (h : Torn D frm n fk s) (hG : Soft G (64 * (frm + 2) + (openB D frm n).length)) (hGn : G.n = D.n)
    (hsame : ∀ j, j < 64 * (frm + 2) + (openB D frm n).length → G.now[j]? = D.now[j]?) (fate : List Int) : Stays D (crashD G fate) frm n fk s := by
  obtain ⟨a1, a2, a3, a4, a5⟩ := crash_soft hG fate
  obtain ⟨r1, r2⟩ := h.mir.rng
  have hM : Mir (crashD G fate) frm n := ⟨a1, a2, a3, r1, by rw [a4, hGn]; exact r2⟩
  have hs : ∀ j, j < 64 * (frm + 2) + (openB D frm n).length → (crashD G fate).now[j]? = D.now[j]? := fun j hj => by rw [a5 j hj, hsame j hj]
  obtain ⟨X, Y, x1, x2, x3, x4, x5⟩ := h.oth
  obtain ⟨b1, b2, b3⟩ := h.stay hM (fun j hj _ => hs j hj) x1 x2 (by rw [← x3]; exact sector_same fun j h1 h2 => hs j (by omega)) x4 x5
  exact ⟨b1, by unfold openL; rw [b2], b3⟩
/-- A head is written under a fuse, and the power comes back. -/
theorem Torn.turn {D F : DM} {frm : Nat} {n fk : Int} {s : Nat} (h : Torn D frm n fk s) (hs : s < 4611686018427387904) (hF : Soft F (64 * (frm + 2) + (openB D frm n).length)) (hFn : F.n = D.n) (hFg : F.gone = false) (hFl : F.loose = [])
    (hsame : ∀ j, j < 64 * (frm + 2) + (openB D frm n).length → F.now[j]? = D.now[j]?) {all nt : List Int} (ha : (all.length : Int) ≤ 64 * (n - 2)) (hall : ∀ t, t < all.length → F.now[64 * (frm + 2) + t]? = all[t]?) (hnt : nt.length = 16) (hnb : byteL nt) (fate : List Int) (hfk : fateAt fate 0 = fk) :
    (turnR F frm (((s : Int) + 1) :: (all.length : Int) :: nt)).2.ok ∧ (turnR F frm (((s : Int) + 1) :: (all.length : Int) :: nt)).2.loose.length ≤ 1 ∧
    (((turnR F frm (((s : Int) + 1) :: (all.length : Int) :: nt)).1 = 0 ∧ Goes (crashD (turnR F frm (((s : Int) + 1) :: (all.length : Int) :: nt)).2 fate) frm n fk s all nt) ∨
     ((turnR F frm (((s : Int) + 1) :: (all.length : Int) :: nt)).1 = 5 ∧ (Goes (crashD (turnR F frm (((s : Int) + 1) :: (all.length : Int) :: nt)).2 fate) frm n fk s all nt ∨ Stays D (crashD (turnR F frm (((s : Int) + 1) :: (all.length : Int) :: nt)).2 fate) frm n fk s))) := by
  obtain ⟨r1, r2⟩ := h.mir.rng
  have hDn := h.mir.sure.ok.n
  obtain ⟨N, hN⟩ : ∃ N, N = ((s : Int) + 1) :: (all.length : Int) :: nt := ⟨_, rfl⟩
  obtain ⟨b1, b2, b3, b4⟩ := half_head (a := (s : Int) + 1) (b := (all.length : Int)) (nt := nt) ⟨by omega, by omega⟩ ⟨by omega, by omega⟩ hnt
  rw [← hN] at b1 b2 b3 b4 ⊢
  have hp : ((s : Int) + 1).tmod 2 = (((s + 1) % 2 : Nat) : Int) := by
    rw [Int.tmod_eq_emod_of_nonneg (by omega)]; omega
  have hhl : (halfL N ++ halfL N).length = 64 := by rw [List.length_append, b1]
  have hhb : byteL (halfL N ++ halfL N) := fun b hb => by
    have hnd : byteL (N.drop 2) := by rw [hN]; exact hnb
    rcases List.mem_append.1 hb with hb | hb
    · exact half_byte hnd b hb
    · exact half_byte hnd b hb
  have hi : F.has ((frm : Int) + (((s + 1) % 2 : Nat) : Int)) = true := by unfold DM.has; rw [hFn]; simp only [decide_eq_true_eq]; omega
  have et : ((frm : Int) + (((s + 1) % 2 : Nat) : Int)).toNat = frm + (s + 1) % 2 := by omega
  have e0 : N.getD 0 0 = (s : Int) + 1 := by rw [hN]; rfl
  have hturn : turnR F frm N = if (writeR F ((frm : Int) + (((s + 1) % 2 : Nat) : Int)) (halfL N ++ halfL N)).1 ≠ 0 then writeR F ((frm : Int) + (((s + 1) % 2 : Nat) : Int)) (halfL N ++ halfL N) else syncR (writeR F ((frm : Int) + (((s + 1) % 2 : Nat) : Int)) (halfL N ++ halfL N)).2 := by
    unfold turnR
    rw [e0, hp]
  have hF0 : Soft F 0 := ⟨hF.ok, hF.byte, fun p hp => ⟨(hF.old p hp).1, fun j _ hj => by omega⟩⟩
  -- what stands there in the end
  have fin : ∀ (E : DM) (S : List Int), Sure E → E.loose = [] → byteL E.now → E.n = D.n → S.length = 64 →
      (∀ j, E.now[j]? = if 64 * (frm + (s + 1) % 2) ≤ j ∧ j < 64 * (frm + (s + 1) % 2) + 64 then S[j - 64 * (frm + (s + 1) % 2)]? else F.now[j]?) →
      (S = halfL N ++ halfL N → Goes E frm n fk s all nt) ∧ (S = tornI (D.sector ((frm : Int) + (((s + 1) % 2 : Nat) : Int))) (halfL N ++ halfL N) fk → Goes E frm n fk s all nt ∨ Stays D E frm n fk s) := by
    intro E S c1 c2 c3 c4 c5 hg
    have hM : Mir E frm n := ⟨c1, c2, c3, r1, by rw [c4]; exact r2⟩
    have hsecE : E.sector ((frm : Int) + (((s + 1) % 2 : Nat) : Int)) = S := sector_eq c5 fun j hj => by
      rw [et, hg, if_pos (by omega)]
      congr 1; omega
    have goes : S = halfL N ++ halfL N → Goes E frm n fk s all nt := by
      intro hS
      rw [hS, hN] at hsecE
      obtain ⟨d1, d2, d3⟩ := h.next hM hs ha hnt (fun j h1 h2 => by rw [hg, if_neg (by omega)]; exact hsame j (by omega)) (fun t ht => by rw [hg, if_neg (by omega)]; exact hall t ht) hsecE
      refine ⟨d1, ?_, ?_, d3⟩
      · show (openH E frm n).getD 0 0 = _
        rw [d2]; rfl
      · show (openH E frm n).drop 2 = _
        rw [d2]; rfl
    refine ⟨goes, fun hS => ?_⟩
    obtain ⟨X, Y, x1, x2, x3, x4, x5⟩ := h.oth
    rw [x3, torn_torn] at hS
    by_cases hlk : tornI (X ++ X) (halfL N ++ halfL N) fk = halfL N ++ halfL N
    · exact Or.inl (goes (hS.trans hlk))
    · refine Or.inr ?_
      rw [hS] at hsecE
      obtain ⟨d1, d2, d3⟩ := h.stay hM (fun j h1 h2 => by rw [hg, if_neg h2]; exact hsame j h1) x1 b1 hsecE (fun hl => (torn_like x1 b1 fk hl).resolve_right hlk) x5
      exact ⟨d1, by unfold openL; rw [d2], d3⟩
  rcases writeR_any hFg hi hhl with e | e
  · have e5 : turnR F frm N = (5, { F with gone := true }) := by rw [hturn, e, if_pos (by simp)]
    rw [e5]
    exact ⟨hF.gone.ok, by show F.loose.length ≤ 1; rw [hFl]; simp, Or.inr ⟨rfl, Or.inr (h.keep hF.gone hFn hsame fate)⟩⟩
  · have e6 : turnR F frm N = syncR (putD F ((frm : Int) + (((s + 1) % 2 : Nat) : Int)) (halfL N ++ halfL N)) := by rw [hturn, e, if_neg (by simp)]
    obtain ⟨G, hG⟩ : ∃ G, G = putD F ((frm : Int) + (((s + 1) % 2 : Nat) : Int)) (halfL N ++ halfL N) := ⟨_, rfl⟩
    have hGS : Soft G 0 := by rw [hG]; exact (putD_soft hF0 hi hhl hhb (fun j _ hj => by omega)).1
    have gp := putD_get hF.ok hi hhl
    rw [← hG, et] at gp
    have hGn : G.n = D.n := by rw [hG, ← hFn]; rfl
    have hGg : G.gone = false := by rw [hG]; rfl
    have hGl : G.loose = [((frm : Int) + (((s + 1) % 2 : Nat) : Int), F.sector ((frm : Int) + (((s + 1) % 2 : Nat) : Int)))] := by
      rw [hG]
      show (if (mapGo _ (lv F.loose) 0).isSome then F.loose else F.loose ++ _) = _
      rw [hFl]; rfl
    rw [← hG] at e6
    rw [e6]
    rcases syncR_any hGS.ok hGg with e7 | ⟨E, e7, o1, o2, o3, o4, o5⟩
    · rw [e7]
      have hS : Soft { G with gone := true } 0 := hGS.gone
      obtain ⟨a1, a2, a3, a4, _⟩ := crash_soft hS fate
      have hcr := crash_one (D := { G with gone := true }) hGl fate
      rw [hfk] at hcr
      have hcr : (crashD { G with gone := true } fate).now = splice G.now (64 * (frm + (s + 1) % 2)) (tornI (F.sector ((frm : Int) + (((s + 1) % 2 : Nat) : Int))) (secOf G.now ((frm : Int) + (((s + 1) % 2 : Nat) : Int))) fk) := by rw [hcr, et]
      have hsG : secOf G.now ((frm : Int) + (((s + 1) % 2 : Nat) : Int)) = halfL N ++ halfL N := by
        show G.sector _ = _
        refine sector_eq hhl fun j hj => ?_
        rw [et, gp, if_pos (by omega)]
        congr 1; omega
      have hsF : F.sector ((frm : Int) + (((s + 1) % 2 : Nat) : Int)) = D.sector ((frm : Int) + (((s + 1) % 2 : Nat) : Int)) := sector_same fun j h1 h2 => hsame j (by omega)
      rw [hsG, hsF] at hcr
      have hGlen := hGS.ok.now
      refine ⟨hS.ok, by show G.loose.length ≤ 1; rw [hGl]; simp, Or.inr ⟨rfl, (fin _ _ a1 a2 a3 (by rw [a4]; exact hGn) (tornI_length _ _ _) fun j => ?_).2 rfl⟩⟩
      rw [hcr, Sx.splice_get (by rw [tornI_length, hGlen]; omega), tornI_length]
      split
      · rfl
      · rename_i hh
        rw [gp, if_neg hh]
    · rw [e7]
      have hS : Soft E 0 := ⟨o1, by rw [o3]; exact hGS.byte, fun p hp => by rw [o5] at hp; cases hp⟩
      obtain ⟨a1, a2, a3, a4, _⟩ := crash_soft hS fate
      have hcr : (crashD E fate).now = G.now := by
        show crashN E.loose fate E.now (sortK (E.loose.map (·.1))) E.loose.length = _
        rw [o5, ← o3]; rfl
      refine ⟨o1, by rw [o5]; simp, Or.inl ⟨rfl, (fin _ _ a1 a2 a3 (by rw [a4, o4]; exact hGn) hhl fun j => ?_).1 rfl⟩⟩
      rw [hcr, gp]
theorem Mir.soft {D : DM} {frm : Nat} {n : Int} (h : Mir D frm n) (f : Int) (hf : f ≤ 9223372036854775807) (B : Nat) : Soft (fuseD D f) B := ⟨fuseD_ok h.sure.ok hf, h.byte, fun p hp => by
  have hp : p ∈ D.loose := hp
  rw [h.loose] at hp; cases hp⟩
theorem Torn.append {D : DM} {frm : Nat} {n fk : Int} {s : Nat} (h : Torn D frm n fk s) (hs : s < 4611686018427387904) {b nt : List Int} (hb : ((openB D frm n).length : Int) + b.length ≤ 64 * (n - 2)) (hn : n ≤ 1000) (hnt : nt.length = 16) (hbb : byteL b) (hnb : byteL nt) {f : Int} (hf : f ≤ 9223372036854775807) (fate : List Int) (hfk : fateAt fate 0 = fk) :
    (appendR (fuseD D f) (openL D frm n) (openB D frm n) b nt).D.ok ∧ (appendR (fuseD D f) (openL D frm n) (openB D frm n) b nt).D.loose.length ≤ 1000000 ∧
    (((appendR (fuseD D f) (openL D frm n) (openB D frm n) b nt).e = 0 ∧ (appendR (fuseD D f) (openL D frm n) (openB D frm n) b nt).L.over = false ∧ Goes (crashD (appendR (fuseD D f) (openL D frm n) (openB D frm n) b nt).D fate) frm n fk s (openB D frm n ++ b) nt) ∨
     ((appendR (fuseD D f) (openL D frm n) (openB D frm n) b nt).e = 5 ∧ (appendR (fuseD D f) (openL D frm n) (openB D frm n) b nt).L = overL (openL D frm n) ∧ (appendR (fuseD D f) (openL D frm n) (openB D frm n) b nt).bs = openB D frm n ∧
      (Goes (crashD (appendR (fuseD D f) (openL D frm n) (openB D frm n) b nt).D fate) frm n fk s (openB D frm n ++ b) nt ∨ Stays D (crashD (appendR (fuseD D f) (openL D frm n) (openB D frm n) b nt).D fate) frm n fk s))) := by
  obtain ⟨r1, r2⟩ := h.mir.rng
  have hDn := h.mir.sure.ok.n
  obtain ⟨L, hL⟩ : ∃ L, L = openL D frm n := ⟨_, rfl⟩
  obtain ⟨bs, hbs⟩ : ∃ bs, bs = openB D frm n := ⟨_, rfl⟩
  have f1 : L.frm = frm := by rw [hL]; rfl
  have f2 : L.most = 64 * (n - 2) := by rw [hL]; rfl
  have f3 : L.serial = s := by rw [hL]; exact h.ser
  have f4 : L.over = false := by rw [hL]; rfl
  have hat := @Mir.at D frm n h.mir
  have hal : (bs ++ b).length = bs.length + b.length := List.length_append
  have hbsb : byteL bs := by
    rw [hbs]
    intro z hz
    unfold openB bytesAt at hz
    exact h.mir.byte z (List.mem_of_mem_drop (List.mem_of_mem_take hz))
  have hallb : byteL (bs ++ b) := fun z hz => by
    rcases List.mem_append.1 hz with hz | hz
    · exact hbsb z hz
    · exact hbb z hz
  have hsoft := h.mir.soft f hf (64 * (frm + 2) + bs.length)
  rw [← hbs] at hb hat
  rw [← hL, ← hbs]
  obtain ⟨a1, a2, a3, a4, a5, a6⟩ := fillGo_any frm (bs ++ b) hallb (64 * (frm + 2) + bs.length) (by omega) ((bs ++ b).length + 1) (bs.length / 64) (fuseD D f) hsoft h.mir.sure.gone (by show _ ≤ 64 * D.n; omega) (by omega) (fun t _ ht => by
    show D.now[_]? = _
    rw [hat (by omega), List.getElem?_append_left (by omega)])
  have efr : fillR (fuseD D f) L.frm (bs ++ b) bs.length = fillGo frm (bs ++ b) ((bs ++ b).length + 1) (bs.length / 64) (fuseD D f) := by
    unfold fillR
    rw [f1, show (((bs.length : Nat) : Int) / 64).toNat = bs.length / 64 by omega]
  rw [← efr] at a1 a2 a3 a4 a5 a6
  obtain ⟨R, hR⟩ : ∃ R, R = fillR (fuseD D f) L.frm (bs ++ b) bs.length := ⟨_, rfl⟩
  rw [← hR] at a1 a2 a3 a4 a5 a6
  have eN : newH L (bs ++ b) nt = ((s : Int) + 1) :: ((bs ++ b).length : Int) :: nt := by unfold newH; rw [f3]
  have happ0 : appendR (fuseD D f) L bs b nt = if (becomeR (fuseD D f) L (bs ++ b) nt bs.length).1 = 0 then ⟨0, (becomeR (fuseD D f) L (bs ++ b) nt bs.length).2, grownL L (bs ++ b) nt, bs ++ b⟩ else ⟨5, (becomeR (fuseD D f) L (bs ++ b) nt bs.length).2, overL L, bs⟩ := by
    unfold appendR
    rw [f4, if_neg (by simp), if_neg (by rw [f3]; omega), if_neg (by rw [f2]; omega)]
  have hlo : (fuseD D f).loose = [] := h.mir.loose
  rw [hlo] at a3
  rcases a6 with ⟨c1, c2, c3, c4⟩ | c
  · obtain ⟨t1, t2, t3⟩ := h.turn hs (F := R.2) (all := bs ++ b) (nt := nt) (by rw [← hbs]; exact a1) a2 c2 c3 (by rw [← hbs]; exact a4) (by rw [hal]; omega) (fun t ht => by
      rcases Nat.lt_or_ge t (64 * (bs.length / 64)) with h1 | h1
      · rw [a4 _ (by omega)]
        show D.now[_]? = _
        rw [hat (by omega), List.getElem?_append_left (by omega)]
      · exact c4 t h1 ht) hnt hnb fate hfk
    rw [← eN, ← f1] at t1 t2 t3
    have hbec : becomeR (fuseD D f) L (bs ++ b) nt bs.length = if (turnR R.2 L.frm (newH L (bs ++ b) nt)).1 ≠ 0 then (5, (turnR R.2 L.frm (newH L (bs ++ b) nt)).2) else (0, (turnR R.2 L.frm (newH L (bs ++ b) nt)).2) := by
      unfold becomeR
      rw [← hR, if_neg (by rw [c1]; simp)]
    rcases t3 with ⟨u1, u2⟩ | ⟨u1, u2⟩
    · have e : appendR (fuseD D f) L bs b nt = ⟨0, (turnR R.2 L.frm (newH L (bs ++ b) nt)).2, grownL L (bs ++ b) nt, bs ++ b⟩ := by
        rw [happ0, hbec.trans (if_neg (by rw [u1]; simp))]; rfl
      rw [e]
      refine ⟨t1, by show (turnR R.2 L.frm (newH L (bs ++ b) nt)).2.loose.length ≤ _; omega, Or.inl ⟨rfl, f4, ?_⟩⟩
      rw [f1] at u2
      rw [f1]; exact u2
    · have e : appendR (fuseD D f) L bs b nt = ⟨5, (turnR R.2 L.frm (newH L (bs ++ b) nt)).2, overL L, bs⟩ := by
        rw [happ0, hbec.trans (if_pos (by rw [u1]; simp))]; rfl
      rw [e]
      refine ⟨t1, by show (turnR R.2 L.frm (newH L (bs ++ b) nt)).2.loose.length ≤ _; omega, Or.inr ⟨rfl, rfl, rfl, ?_⟩⟩
      rw [f1] at u2
      rw [f1]; exact u2
  · have hbec : becomeR (fuseD D f) L (bs ++ b) nt bs.length = (5, R.2) := by
      unfold becomeR
      rw [← hR, if_pos (by rw [c]; simp)]
    have e : appendR (fuseD D f) L bs b nt = ⟨5, R.2, overL L, bs⟩ := by
      rw [happ0, hbec]; rfl
    rw [e]
    refine ⟨a1.ok, by show R.2.loose.length ≤ _; simp only [List.length_nil] at a3; omega, Or.inr ⟨rfl, rfl, rfl, Or.inr ?_⟩⟩
    exact h.keep (by rw [← hbs]; exact a1) a2 (by rw [← hbs]; exact a4) fate
theorem Torn.clear {D : DM} {frm : Nat} {n fk : Int} {s : Nat} (h : Torn D frm n fk s) (hs : s < 4611686018427387904) {f : Int} (hf : f ≤ 9223372036854775807) (fate : List Int) (hfk : fateAt fate 0 = fk) :
    (clearR (fuseD D f) (openL D frm n) (openB D frm n)).D.ok ∧ (clearR (fuseD D f) (openL D frm n) (openB D frm n)).D.loose.length ≤ 1000000 ∧
    (((clearR (fuseD D f) (openL D frm n) (openB D frm n)).e = 0 ∧ (clearR (fuseD D f) (openL D frm n) (openB D frm n)).L.over = false ∧ Goes (crashD (clearR (fuseD D f) (openL D frm n) (openB D frm n)).D fate) frm n fk s [] (openL D frm n).note) ∨
     ((clearR (fuseD D f) (openL D frm n) (openB D frm n)).e = 5 ∧ (clearR (fuseD D f) (openL D frm n) (openB D frm n)).L = overL (openL D frm n) ∧ (clearR (fuseD D f) (openL D frm n) (openB D frm n)).bs = openB D frm n ∧
      (Goes (crashD (clearR (fuseD D f) (openL D frm n) (openB D frm n)).D fate) frm n fk s [] (openL D frm n).note ∨ Stays D (crashD (clearR (fuseD D f) (openL D frm n) (openB D frm n)).D fate) frm n fk s))) := by
  have hn16 := h.mir.note16
  have hnb : byteL (openL D frm n).note := h.mir.noteb
  obtain ⟨r1, r2⟩ := h.mir.rng
  obtain ⟨t1, t2, t3⟩ := h.turn hs (F := fuseD D f) (all := []) (nt := (openL D frm n).note) (h.mir.soft f hf _) rfl h.mir.sure.gone h.mir.loose (fun j _ => rfl) (by show (0 : Int) ≤ _; omega) (fun t ht => by cases ht) hn16 hnb fate hfk
  have hser : (openL D frm n).serial = s := h.ser
  have eN : newH (openL D frm n) [] (openL D frm n).note = ((s : Int) + 1) :: (([] : List Int).length : Int) :: (openL D frm n).note := by unfold newH; rw [hser]
  rw [← eN] at t1 t2 t3
  have e0 : clearR (fuseD D f) (openL D frm n) (openB D frm n) = if (turnR (fuseD D f) frm (newH (openL D frm n) [] (openL D frm n).note)).1 = 0 then ⟨0, (turnR (fuseD D f) frm (newH (openL D frm n) [] (openL D frm n).note)).2, grownL (openL D frm n) [] (openL D frm n).note, []⟩ else ⟨5, (turnR (fuseD D f) frm (newH (openL D frm n) [] (openL D frm n).note)).2, overL (openL D frm n), openB D frm n⟩ := by
    have ho : (openL D frm n).over = false := rfl
    unfold clearR
    rw [ho, if_neg (by simp), if_neg (by rw [hser]; omega)]
    rfl
  rcases t3 with ⟨u1, u2⟩ | ⟨u1, u2⟩
  · rw [if_pos u1] at e0
    rw [e0]
    exact ⟨t1, by show (turnR _ _ _).2.loose.length ≤ _; omega, Or.inl ⟨rfl, rfl, u2⟩⟩
  · rw [if_neg (by rw [u1]; decide)] at e0
    rw [e0]
    exact ⟨t1, by show (turnR _ _ _).2.loose.length ≤ _; omega, Or.inr ⟨rfl, rfl, rfl, u2⟩⟩
theorem newD_torn {m n : Int} {frm : Nat} (hm : 0 ≤ m ∧ m ≤ 16384) (hn : 3 ≤ n) (hr : (frm : Int) + n ≤ m) (fk : Int) : Torn (newD m) frm n fk 0 := by
  have hM := newD_mir hm hn hr
  have hs : sects m = m.toNat := by unfold sects; omega
  have hz : bigI (List.replicate 8 0) = 0 := by decide
  have hsec : ∀ p : Nat, p < 2 → (newD m).sector ((frm : Int) + (p : Int)) = List.replicate 32 0 ++ List.replicate 32 0 := by
    intro p hp
    unfold DM.sector
    show ((List.replicate (64 * sects m) (0 : Int)).drop _).take 64 = _
    rw [List.drop_replicate, List.take_replicate, hs, List.replicate_append_replicate]
    congr 1; omega
  have hh : openH (newD m) frm n = 0 :: (([] : List Int).length : Int) :: List.replicate 16 0 := (newD_holds (frm := frm) hm hn hr).openH
  have hc := (newD_holds (m := m) (n := n) (frm := frm) hm hn hr).cur
  refine ⟨hM, by rw [hh]; rfl, ⟨List.replicate 32 0, by simp, hsec 0 (by omega), hz⟩, ?_, List.replicate 32 0, List.replicate 32 0, by simp, by simp, ?_, fun _ => torn_self (by simp) fk, ?_⟩
  · rw [hh, hc]; rfl
  · rw [torn_self (by simp)]; exact hsec 1 (by omega)
  · show bigI (List.replicate 8 0) ≤ _
    rw [hz]; exact Int.le_refl 0
/-- What a disk is after a change was tried: by what the change told. -/
def Ends (D E : DM) (frm : Nat) (n : Int) (fate : List Int) (s : Nat) (all nt : List Int) (e : Int) (over : Bool) : Prop :=
  (e = 4 ∧ Stays D (crashD E fate) frm n (fateAt fate 0) s) ∨ (e = 0 ∧ over = false ∧ Goes (crashD E fate) frm n (fateAt fate 0) s all nt) ∨
  (e = 5 ∧ over = true ∧ (Goes (crashD E fate) frm n (fateAt fate 0) s all nt ∨ Stays D (crashD E fate) frm n (fateAt fate 0) s))
theorem Ends.torn {D E : DM} {frm : Nat} {n : Int} {fate : List Int} {s : Nat} {all nt : List Int} {e : Int} {over : Bool} (h : Ends D E frm n fate s all nt e over) : ∃ s', s' ≤ s + 1 ∧ Torn (crashD E fate) frm n (fateAt fate 0) s' := by
  rcases h with ⟨_, h⟩ | ⟨_, _, h⟩ | ⟨_, _, h | h⟩
  · exact ⟨s, by omega, h.1⟩
  · exact ⟨s + 1, by omega, h.1⟩
  · exact ⟨s + 1, by omega, h.1⟩
  · exact ⟨s, by omega, h.1⟩
theorem appendR_size {D : DM} {L : LM} {bs b nt : List Int} (hb : bs.length ≤ 1048576) (hm : L.most ≤ 1048576) (h0 : 0 ≤ L.serial) : (appendR D L bs b nt).bs.length ≤ 1048576 ∧ 0 ≤ (appendR D L bs b nt).L.serial := by
  unfold appendR
  split
  · exact ⟨hb, h0⟩
  split
  · exact ⟨hb, h0⟩
  split
  · exact ⟨hb, h0⟩
  split
  · refine ⟨?_, by show 0 ≤ L.serial + 1; omega⟩
    show (bs ++ b).length ≤ _
    rw [List.length_append]; omega
  · exact ⟨hb, h0⟩
theorem clearR_size {D : DM} {L : LM} {bs : List Int} (hb : bs.length ≤ 1048576) (h0 : 0 ≤ L.serial) : (clearR D L bs).bs.length ≤ 1048576 ∧ 0 ≤ (clearR D L bs).L.serial := by
  unfold clearR
  split
  · exact ⟨hb, h0⟩
  split
  · exact ⟨hb, h0⟩
  split
  · exact ⟨by show ([] : List Int).length ≤ _; simp, by show 0 ≤ L.serial + 1; omega⟩
  · exact ⟨hb, h0⟩
theorem appendR_over {D : DM} {L : LM} {bs b nt : List Int} (h : L.over = true) : appendR D L bs b nt = ⟨5, D, L, bs⟩ := by
  unfold appendR; rw [h, if_pos rfl]
theorem clearR_over {D : DM} {L : LM} {bs : List Int} (h : L.over = true) : clearR D L bs = ⟨5, D, L, bs⟩ := by
  unfold clearR; rw [h, if_pos rfl]
theorem Torn.appendEnds {D : DM} {frm : Nat} {n : Int} {fate : List Int} {s : Nat} (h : Torn D frm n (fateAt fate 0) s) (hs : s < 4611686018427387904) {b nt : List Int} (hn : n ≤ 1000) (hnt : nt.length = 16) (hbb : byteL b) (hnb : byteL nt) {f : Int} (hf : f ≤ 9223372036854775807) :
    (appendR (fuseD D f) (openL D frm n) (openB D frm n) b nt).D.ok ∧ (appendR (fuseD D f) (openL D frm n) (openB D frm n) b nt).D.loose.length ≤ 1000000 ∧
    Ends D (appendR (fuseD D f) (openL D frm n) (openB D frm n) b nt).D frm n fate s (openB D frm n ++ b) nt (appendR (fuseD D f) (openL D frm n) (openB D frm n) b nt).e (appendR (fuseD D f) (openL D frm n) (openB D frm n) b nt).L.over := by
  by_cases hfull : (openL D frm n).most - ((openB D frm n).length : Int) < b.length
  · have hser : (openL D frm n).serial = s := h.ser
    have ho : (openL D frm n).over = false := rfl
    have e : appendR (fuseD D f) (openL D frm n) (openB D frm n) b nt = ⟨4, fuseD D f, openL D frm n, openB D frm n⟩ := by
      unfold appendR
      rw [ho, if_neg (by simp), if_neg (by rw [hser]; omega), if_pos hfull]
    rw [e]
    have hS := h.mir.soft f hf (64 * (frm + 2) + (openB D frm n).length)
    exact ⟨hS.ok, by show D.loose.length ≤ _; rw [h.mir.loose]; simp, Or.inl ⟨rfl, h.keep hS rfl (fun j _ => rfl) fate⟩⟩
  · have hm : (openL D frm n).most = 64 * (n - 2) := rfl
    obtain ⟨a1, a2, a3⟩ := h.append hs (b := b) (nt := nt) (by omega) hn hnt hbb hnb hf fate rfl
    refine ⟨a1, a2, ?_⟩
    rcases a3 with ⟨c1, c2, c3⟩ | ⟨c1, c2, _, c4⟩
    · exact Or.inr (Or.inl ⟨c1, c2, c3⟩)
    · exact Or.inr (Or.inr ⟨c1, by rw [c2]; rfl, c4⟩)
theorem Torn.clearEnds {D : DM} {frm : Nat} {n : Int} {fate : List Int} {s : Nat} (h : Torn D frm n (fateAt fate 0) s) (hs : s < 4611686018427387904) {f : Int} (hf : f ≤ 9223372036854775807) :
    (clearR (fuseD D f) (openL D frm n) (openB D frm n)).D.ok ∧ (clearR (fuseD D f) (openL D frm n) (openB D frm n)).D.loose.length ≤ 1000000 ∧
    Ends D (clearR (fuseD D f) (openL D frm n) (openB D frm n)).D frm n fate s [] (openL D frm n).note (clearR (fuseD D f) (openL D frm n) (openB D frm n)).e (clearR (fuseD D f) (openL D frm n) (openB D frm n)).L.over := by
  obtain ⟨a1, a2, a3⟩ := h.clear hs hf fate rfl
  refine ⟨a1, a2, ?_⟩
  rcases a3 with ⟨c1, c2, c3⟩ | ⟨c1, c2, _, c4⟩
  · exact Or.inr (Or.inl ⟨c1, c2, c3⟩)
  · exact Or.inr (Or.inr ⟨c1, by rw [c2]; rfl, c4⟩)
end Go.Proofs.Ytnpepkjfeadbjaa
