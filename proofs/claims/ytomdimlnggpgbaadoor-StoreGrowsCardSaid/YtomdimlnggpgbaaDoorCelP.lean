/- Layer 8: what is appended is there when the log is opened again: plain facts about a disk's bytes. -/
import Derived.Test.YtomdimlnggpgbaaDoorCelL
set_option linter.unusedSimpArgs false
set_option linter.unusedVariables false
set_option linter.constructorNameAsVariable false
namespace Go.Proofs.YtomdimlnggpgbaaDoor.D
open Go Go.Sx

/-- A disk of full power with no fuse. -/
structure Sure (D : DM) : Prop where
  ok : D.ok
  fuse : D.fuse = -1
  gone : D.gone = false
theorem putD_sure {D : DM} (h : Sure D) {i : Int} (hi : D.has i = true) {bs : List Int} (hb : bs.length = 64) : Sure (putD D i bs) := ⟨putD_ok h.ok hi hb, by show (if 0 < D.fuse then D.fuse - 1 else D.fuse) = -1; rw [h.fuse]; rfl, rfl⟩
theorem writeR_sure {D : DM} (h : Sure D) {i : Int} (hi : D.has i = true) {bs : List Int} (hb : bs.length = 64) : writeR D i bs = (0, putD D i bs) := by
  unfold writeR
  rw [if_neg (by rw [hi, hb]; simp), if_neg (by rw [h.gone]; simp), if_neg (by rw [h.fuse]; decide)]
theorem syncR_sure {D : DM} (h : Sure D) : (syncR D).1 = 0 ∧ Sure (syncR D).2 ∧ (syncR D).2.now = D.now ∧ (syncR D).2.n = D.n := by
  have e : syncR D = (0, ⟨D.n, D.now, [], if 0 < D.fuse then D.fuse - 1 else D.fuse, D.gone⟩) := by
    unfold syncR
    rw [if_neg (by rw [h.gone]; simp), if_neg (by rw [h.fuse]; decide)]
  rw [e]
  refine ⟨rfl, ⟨⟨h.ok.now, h.ok.n, ?_, ?_, fun p hp => by cases hp⟩, ?_, h.gone⟩, rfl, rfl⟩
  · show -1 ≤ (if 0 < D.fuse then D.fuse - 1 else D.fuse); rw [h.fuse]; decide
  · show (if 0 < D.fuse then D.fuse - 1 else D.fuse) ≤ _; rw [h.fuse]; decide
  · show (if 0 < D.fuse then D.fuse - 1 else D.fuse) = -1; rw [h.fuse]; rfl
theorem putD_get {D : DM} (h : D.ok) {i : Int} (hi : D.has i = true) {bs : List Int} (hb : bs.length = 64) (j : Nat) : (putD D i bs).now[j]? = if 64 * i.toNat ≤ j ∧ j < 64 * i.toNat + 64 then bs[j - 64 * i.toNat]? else D.now[j]? := by
  have hh : 0 ≤ i ∧ i < D.n := by unfold DM.has at hi; simpa using hi
  show (splice D.now (64 * i.toNat) bs)[j]? = _
  rw [Sx.splice_get (by rw [h.now, hb]; omega), hb]
theorem secA_length (all : List Int) (i : Nat) : (secA all i).length = 64 := by simp [secA]
theorem secA_get (all : List Int) (i j : Nat) (h : j < 64) (hj : 64 * i + j < all.length) : (secA all i)[j]? = all[64 * i + j]? := by
  unfold secA
  rw [List.getElem?_map, List.getElem?_range h, Option.map_some, List.getElem?_eq_getElem hj, Option.getD_some]
/-- All sectors from one on are written. -/
theorem fillGo_sure (frm : Nat) (all : List Int) : ∀ (f i : Nat) (D : DM), Sure D → all.length + 1 ≤ f + i → all.length + 64 * (frm + 2) ≤ 64 * D.n →
    (fillGo frm all f i D).1 = 0 ∧ Sure (fillGo frm all f i D).2 ∧ (fillGo frm all f i D).2.n = D.n ∧ (∀ j, j < 64 * (frm + 2 + i) → (fillGo frm all f i D).2.now[j]? = D.now[j]?) ∧ (∀ t, 64 * i ≤ t → t < all.length → (fillGo frm all f i D).2.now[64 * (frm + 2) + t]? = all[t]?) := by
  intro f
  induction f with
  | zero =>
    intro i D h h1 h2
    obtain ⟨a, b, c, d⟩ := syncR_sure h
    show (syncR D).1 = 0 ∧ _
    refine ⟨a, b, d, fun j _ => ?_, fun t ht ht' => by omega⟩
    show (syncR D).2.now[j]? = _
    rw [c]
  | succ f ih =>
    intro i D h h1 h2
    have ec : (frm : Int) + 2 + i = ((frm + 2 + i : Nat) : Int) := by omega
    by_cases hlt : 64 * i < all.length
    · have hi : D.has ((frm : Int) + 2 + i) = true := by unfold DM.has; simp only [decide_eq_true_eq]; omega
      have hw := writeR_sure h hi (secA_length all i)
      have e : fillGo frm all (f + 1) i D = fillGo frm all f (i + 1) (putD D ((frm : Int) + 2 + i) (secA all i)) := by
        show (if 64 * i < all.length then _ else _) = _
        rw [if_pos hlt, hw]; simp
      rw [e]
      have hS := putD_sure h hi (secA_length all i)
      obtain ⟨a, b, c, d, g⟩ := ih (i + 1) _ hS (by omega) h2
      have gp := putD_get h.ok hi (secA_length all i)
      refine ⟨a, b, c, fun j hj => ?_, fun t ht ht' => ?_⟩
      · rw [d j (by omega), gp, ec, Int.toNat_natCast, if_neg (by omega)]
      · rcases Nat.lt_or_ge t (64 * (i + 1)) with h3 | h3
        · rw [d _ (by omega), gp, ec, Int.toNat_natCast, if_pos (by omega), secA_get all i _ (by omega) (by omega)]
          congr 1; omega
        · exact g t h3 ht'
    · have e : fillGo frm all (f + 1) i D = syncR D := by
        show (if 64 * i < all.length then _ else _) = _
        rw [if_neg hlt]
      rw [e]
      obtain ⟨a, b, c, d⟩ := syncR_sure h
      exact ⟨a, b, d, fun j _ => by rw [c], fun t ht ht' => by omega⟩

/-- What a log's sectors tell. -/
structure Holds (D : DM) (frm : Nat) (n : Int) (k : Nat) (all nt : List Int) : Prop where
  sure : Sure D
  rng : 3 ≤ n ∧ (frm : Int) + n ≤ D.n
  len : (all.length : Int) ≤ 64 * (n - 2)
  note : nt.length = 16
  cur : lreadR D frm (64 * (n - 2)) ((k % 2 : Nat) : Int) = ((k : Int) :: (all.length : Int) :: nt, 0)
  oth : (lreadR D frm (64 * (n - 2)) (((k + 1) % 2 : Nat) : Int)).1.getD 0 0 < k ∨ (k = 0 ∧ (lreadR D frm (64 * (n - 2)) 1).1.getD 0 0 = 0)
  bytes : ∀ t z, all[t]? = some z → D.now[64 * (frm + 2) + t]? = some z
theorem Holds.openE {D : DM} {frm : Nat} {n : Int} {k : Nat} {all nt : List Int} (h : Holds D frm n k all nt) : openE D frm n = 0 := by
  obtain ⟨h1, h2⟩ := h.rng
  unfold Go.Proofs.YtomdimlnggpgbaaDoor.D.openE
  rw [if_neg (by omega), h.sure.gone]; rfl
theorem Holds.openH {D : DM} {frm : Nat} {n : Int} {k : Nat} {all nt : List Int} (h : Holds D frm n k all nt) : openH D frm n = (k : Int) :: (all.length : Int) :: nt := by
  have hc := h.cur
  have ho := h.oth
  unfold Go.Proofs.YtomdimlnggpgbaaDoor.D.openH
  rcases Nat.mod_two_eq_zero_or_one k with e | e
  · have e' : (k + 1) % 2 = 1 := by omega
    rw [e] at hc
    rw [e'] at ho
    have hc : lreadR D frm (64 * (n - 2)) 0 = _ := hc
    rw [hc]
    show (if (k : Int) < _ then _ else _) = _
    rw [if_neg]
    rcases ho with ho | ⟨hk, ho⟩
    · have ho : (lreadR D frm (64 * (n - 2)) 1).1.getD 0 0 < k := ho
      omega
    · rw [ho]; omega
  · have e' : (k + 1) % 2 = 0 := by omega
    rw [e] at hc
    rw [e'] at ho
    have hc : lreadR D frm (64 * (n - 2)) 1 = _ := hc
    rw [hc]
    show (if _ < (k : Int) then _ else _) = _
    rw [if_pos]
    rcases ho with ho | ⟨hk, ho⟩
    · exact ho
    · omega
theorem Holds.openL {D : DM} {frm : Nat} {n : Int} {k : Nat} {all nt : List Int} (h : Holds D frm n k all nt) : openL D frm n = ⟨frm, 64 * (n - 2), k, all.length, nt, false⟩ := by
  unfold Go.Proofs.YtomdimlnggpgbaaDoor.D.openL headL
  rw [h.openH]; rfl
theorem Holds.openB {D : DM} {frm : Nat} {n : Int} {k : Nat} {all nt : List Int} (h : Holds D frm n k all nt) : openB D frm n = all := by
  obtain ⟨h1, h2⟩ := h.rng
  have hl := h.len
  unfold Go.Proofs.YtomdimlnggpgbaaDoor.D.openB bytesAt
  rw [h.openL]
  show (D.now.drop (64 * ((frm : Int) + 2).toNat)).take ((all.length : Int)).toNat = all
  rw [show ((frm : Int) + 2).toNat = frm + 2 by omega, Int.toNat_natCast]
  apply List.ext_getElem?
  intro j
  rw [List.getElem?_take]
  split
  · rename_i hj
    rw [List.getElem?_drop, h.bytes j _ (List.getElem?_eq_getElem hj), List.getElem?_eq_getElem hj]
  · rw [List.getElem?_eq_none (by omega)]

theorem lread_sector {D : DM} (h : Sure D) {frm most place : Int} (hi : D.has (frm + place) = true) : lreadR D frm most place = if goodH (D.sector (frm + place)) most place then (headI ((D.sector (frm + place)).take 32), 0) else (zeros18, 0) := by
  unfold lreadR
  rw [readR_in hi h.gone]
  simp
theorem lread_same {D D' : DM} (h : Sure D) (h' : Sure D') (hn : D'.n = D.n) {frm most place : Int} (hi : D.has (frm + place) = true) (hs : D'.sector (frm + place) = D.sector (frm + place)) : lreadR D' frm most place = lreadR D frm most place := by
  have hi' : D'.has (frm + place) = true := by unfold DM.has at hi ⊢; rw [hn]; exact hi
  rw [lread_sector h hi, lread_sector h' hi', hs]
theorem sector_same {D D' : DM} {i : Int} (h : ∀ j, 64 * i.toNat ≤ j → j < 64 * i.toNat + 64 → D'.now[j]? = D.now[j]?) : D'.sector i = D.sector i := by
  unfold DM.sector
  apply List.ext_getElem?
  intro j
  rw [List.getElem?_take, List.getElem?_take]
  split
  · rw [List.getElem?_drop, List.getElem?_drop]
    exact h _ (by omega) (by omega)
  · rfl
theorem be8_length (x : Int) : (be8 x).length = 8 := rfl
theorem half_head {a b : Int} {nt : List Int} (ha : 0 ≤ a ∧ a < 18446744073709551616) (hb : 0 ≤ b ∧ b < 18446744073709551616) (hn : nt.length = 16) :
    (halfL (a :: b :: nt)).length = 32 ∧ headI (halfL (a :: b :: nt)) = a :: b :: nt ∧ bigI ((halfL (a :: b :: nt)).take 8) = a ∧ bigI (((halfL (a :: b :: nt)).drop 8).take 8) = b := by
  have e : halfL (a :: b :: nt) = be8 a ++ be8 b ++ nt := by
    unfold halfL
    show be8 a ++ be8 b ++ nt.take 16 = _
    rw [List.take_of_length_le (by omega)]
  have h1 : ((be8 a ++ be8 b ++ nt).take 8) = be8 a := by rw [List.append_assoc, List.take_append_of_le_length (by rw [be8_length]; omega), List.take_of_length_le (by rw [be8_length]; omega)]
  have h2 : ((be8 a ++ be8 b ++ nt).drop 8) = be8 b ++ nt := by rw [List.append_assoc, List.drop_left' (be8_length a)]
  have h3 : (((be8 a ++ be8 b ++ nt).drop 8).take 8) = be8 b := by rw [h2, List.take_append_of_le_length (by rw [be8_length]; omega), List.take_of_length_le (by rw [be8_length]; omega)]
  have h4 : ((be8 a ++ be8 b ++ nt).drop 16).take 16 = nt := by
    rw [List.drop_left' (by rw [List.length_append, be8_length, be8_length]), List.take_of_length_le (by omega)]
  rw [e]
  refine ⟨by simp [be8_length, hn], ?_, ?_, ?_⟩
  · unfold headI
    rw [h1, h3, h4, big_be8 ha.1 ha.2, big_be8 hb.1 hb.2]; rfl
  · rw [h1, big_be8 ha.1 ha.2]
  · rw [h3, big_be8 hb.1 hb.2]

/-- What is appended is there when the log is opened again. -/
theorem Holds.append {D : DM} {frm : Nat} {n : Int} {k : Nat} {all nt : List Int} (h : Holds D frm n k all nt) {b nt' : List Int} (hb : (all.length : Int) + b.length ≤ 64 * (n - 2)) (hk : k < 1000000) (hn' : nt'.length = 16) :
    (appendR D ⟨frm, 64 * (n - 2), k, all.length, nt, false⟩ all b nt').e = 0 ∧ Holds (appendR D ⟨frm, 64 * (n - 2), k, all.length, nt, false⟩ all b nt').D frm n (k + 1) (all ++ b) nt' ∧
    (appendR D ⟨frm, 64 * (n - 2), k, all.length, nt, false⟩ all b nt').bs = all ++ b ∧ (appendR D ⟨frm, 64 * (n - 2), k, all.length, nt, false⟩ all b nt').L = ⟨frm, 64 * (n - 2), (k + 1 : Nat), (all ++ b).length, nt', false⟩ := by
  obtain ⟨r1, r2⟩ := h.rng
  have hDn := h.sure.ok.n
  have hal : (all ++ b).length = all.length + b.length := List.length_append
  obtain ⟨L, hL⟩ : ∃ L : LM, L = ⟨frm, 64 * (n - 2), k, all.length, nt, false⟩ := ⟨_, rfl⟩
  rw [← hL]
  have f1 : L.frm = frm := by rw [hL]
  have f2 : L.most = 64 * (n - 2) := by rw [hL]
  have f3 : L.serial = k := by rw [hL]
  have f4 : L.over = false := by rw [hL]
  obtain ⟨F, hF⟩ : ∃ F, F = (fillR D L.frm (all ++ b) all.length).2 := ⟨_, rfl⟩
  obtain ⟨a1, a2, a3, a4, a5⟩ := fillGo_sure frm (all ++ b) ((all ++ b).length + 1) (all.length / 64) D h.sure (by omega) (by omega)
  have efr : fillR D L.frm (all ++ b) all.length = fillGo frm (all ++ b) ((all ++ b).length + 1) (all.length / 64) D := by
    unfold fillR
    rw [f1, show (((all.length : Nat) : Int) / 64).toNat = all.length / 64 by omega]
  rw [← efr] at a1 a2 a3 a4 a5
  rw [← hF] at a2 a3 a4 a5
  obtain ⟨N, hN⟩ : ∃ N, N = newH L (all ++ b) nt' := ⟨_, rfl⟩
  have eN : N = ((k + 1 : Nat) : Int) :: ((all ++ b).length : Int) :: nt' := by
    rw [hN]; unfold newH; rw [f3]; rfl
  have hp : ((k + 1 : Nat) : Int).tmod 2 = (((k + 1) % 2 : Nat) : Int) := by
    rw [Int.tmod_eq_emod_of_nonneg (by omega)]; omega
  obtain ⟨p, hpp⟩ : ∃ p, p = (k + 1) % 2 := ⟨_, rfl⟩
  have hp2 : p < 2 := by omega
  obtain ⟨b1, b2, b3, b4⟩ := half_head (a := ((k + 1 : Nat) : Int)) (b := ((all ++ b).length : Int)) (nt := nt') ⟨by omega, by omega⟩ ⟨by omega, by omega⟩ hn'
  rw [← eN] at b1 b2 b3 b4
  have hhl : (halfL N ++ halfL N).length = 64 := by rw [List.length_append, b1]
  have ei : ∀ q : Nat, (frm : Int) + ((q : Nat) : Int) = ((frm + q : Nat) : Int) := fun q => by omega
  have hasF : ∀ q : Nat, q < 2 → F.has ((frm : Int) + (q : Int)) = true := fun q hq => by unfold DM.has; rw [a3]; simp only [decide_eq_true_eq]; omega
  have hasD : ∀ q : Nat, q < 2 → D.has ((frm : Int) + (q : Int)) = true := fun q hq => by unfold DM.has; simp only [decide_eq_true_eq]; omega
  have hw := writeR_sure a2 (hasF p hp2) hhl
  obtain ⟨G, hG⟩ : ∃ G, G = putD F ((frm : Int) + (p : Int)) (halfL N ++ halfL N) := ⟨_, rfl⟩
  rw [← hG] at hw
  have hGs : Sure G := by rw [hG]; exact putD_sure a2 (hasF p hp2) hhl
  have hGn : G.n = D.n := by rw [hG, ← a3]; rfl
  have hGg := putD_get a2.ok (hasF p hp2) hhl
  rw [← hG, ei p, Int.toNat_natCast] at hGg
  obtain ⟨s1, s2, s3, s4⟩ := syncR_sure hGs
  have htn : turnR F L.frm N = syncR G := by
    unfold turnR
    have e0 : N.getD 0 0 = ((k + 1 : Nat) : Int) := by rw [eN]; rfl
    rw [f1, e0, hp, ← hpp, hw]; simp
  have hbec : becomeR D L (all ++ b) nt' all.length = (0, (syncR G).2) := by
    unfold becomeR
    rw [if_neg (by rw [a1]; simp), ← hF, ← hN, htn, if_neg (by rw [s1]; simp)]
  have happ : appendR D L all b nt' = ⟨0, (syncR G).2, grownL L (all ++ b) nt', all ++ b⟩ := by
    unfold appendR
    rw [f4, f3, f2, if_neg (by simp), if_neg (by omega), if_neg (by omega), hbec]; rfl
  rw [happ]
  refine ⟨rfl, ⟨s2, ⟨r1, by show (frm : Int) + n ≤ ((syncR G).2.n : Int); rw [s4, hGn]; exact r2⟩, by rw [hal]; omega, hn', ?_, Or.inl ?_, ?_⟩, rfl, by unfold grownL; rw [f1, f2, f3, f4]; rfl⟩
  · rw [← hpp]
    have hi : (syncR G).2.has ((frm : Int) + (p : Int)) = true := by unfold DM.has; rw [s4, hGn]; exact hasD p hp2
    have hsec : (syncR G).2.sector ((frm : Int) + (p : Int)) = halfL N ++ halfL N := by
      unfold DM.sector
      rw [s3, ei p, Int.toNat_natCast]
      apply List.ext_getElem?
      intro j
      rw [List.getElem?_take]
      split
      · rename_i hj
        rw [List.getElem?_drop, hGg, if_pos (by omega)]
        congr 1; omega
      · rw [List.getElem?_eq_none (by omega)]
    show lreadR (syncR G).2 frm (64 * (n - 2)) (p : Int) = _
    rw [lread_sector s2 hi, hsec]
    have ht : (halfL N ++ halfL N).take 32 = halfL N := by rw [List.take_left' b1]
    have hdr : (halfL N ++ halfL N).drop 32 = halfL N := by rw [List.drop_left' b1]
    rw [if_pos, ht, b2, eN]
    unfold goodH
    rw [ht, hdr, b3, b4]
    exact ⟨rfl, by rw [hp, hpp], by omega⟩
  · have hq : (k + 1 + 1) % 2 = k % 2 := by omega
    rw [hq]
    obtain ⟨c, hc⟩ : ∃ c, c = k % 2 := ⟨_, rfl⟩
    have hcur := h.cur
    rw [← hc] at hcur ⊢
    have hc2 : c < 2 := by omega
    have hcp : c ≠ p := by omega
    have hsec : (syncR G).2.sector ((frm : Int) + (c : Int)) = D.sector ((frm : Int) + (c : Int)) := by
      refine sector_same fun j h1 h2 => ?_
      rw [ei c, Int.toNat_natCast] at h1 h2
      rw [s3, hGg, if_neg (by omega)]
      exact a4 j (by omega)
    rw [lread_same h.sure s2 (by rw [s4, hGn]) (hasD c hc2) hsec, hcur]
    show (k : Int) < ((k + 1 : Nat) : Int)
    omega
  · intro t z ht
    have hlt := (List.getElem?_eq_some_iff.1 ht).1
    show (syncR G).2.now[64 * (frm + 2) + t]? = some z
    rw [s3, hGg, if_neg (by omega)]
    rcases Nat.lt_or_ge t (64 * (all.length / 64)) with h1 | h1
    · rw [a4 _ (by omega)]
      refine h.bytes t z ?_
      rw [List.getElem?_append_left (by omega)] at ht
      exact ht
    · rw [a5 t h1 hlt]; exact ht

/-- A new disk holds the empty log. -/
theorem newD_sure (n : Int) : Sure (newD n) := by
  refine ⟨⟨?_, ?_, ?_, ?_, fun p hp => by cases hp⟩, rfl, rfl⟩
  · show (List.replicate (64 * sects n) (0 : Int)).length = 64 * sects n
    rw [List.length_replicate]
  · show sects n ≤ 16384
    unfold sects; omega
  · exact Int.le_refl (-1)
  · show (-1 : Int) ≤ _; omega
theorem newD_holds {m n : Int} {frm : Nat} (hm : 0 ≤ m ∧ m ≤ 16384) (hn : 3 ≤ n) (hr : (frm : Int) + n ≤ m) : Holds (newD m) frm n 0 [] (List.replicate 16 0) := by
  have hs : sects m = m.toNat := by unfold sects; omega
  have hnn : (newD m).n = m.toNat := hs
  have hS := newD_sure m
  have hsec : ∀ p : Nat, p < 2 → (newD m).sector ((frm : Int) + (p : Int)) = List.replicate 64 0 := by
    intro p hp
    unfold DM.sector
    show ((List.replicate (64 * sects m) (0 : Int)).drop _).take 64 = _
    rw [List.drop_replicate, List.take_replicate, hs]
    congr 1; omega
  have hz : bigI (List.replicate 8 0) = 0 := by decide
  have hrd : ∀ p : Nat, p < 2 → lreadR (newD m) frm (64 * (n - 2)) (p : Int) = (zeros18, 0) := by
    intro p hp
    have hi : (newD m).has ((frm : Int) + (p : Int)) = true := by unfold DM.has; rw [hnn]; simp only [decide_eq_true_eq]; omega
    rw [lread_sector hS hi, hsec p hp]
    split
    · rfl
    · rfl
  refine ⟨hS, ⟨hn, by rw [hnn]; omega⟩, by show (0 : Int) ≤ _; omega, rfl, ?_, Or.inr ⟨rfl, ?_⟩, fun t z h => by cases h⟩
  · exact hrd 0 (by omega)
  · have := hrd 1 (by omega)
    have this : lreadR (newD m) frm (64 * (n - 2)) 1 = (zeros18, 0) := this
    rw [this]; rfl
end Go.Proofs.YtomdimlnggpgbaaDoor.D
