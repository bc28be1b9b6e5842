/- Layer 8: whatever stands in sectors, what is appended, or cleared, there is there when the log is opened again: plain facts. -/
import Derived.Test.YtnpepkjfeadbjaaCelU
set_option linter.unusedSimpArgs false
set_option linter.unusedVariables false
set_option linter.constructorNameAsVariable false
namespace Go.Proofs.Ytnpepkjfeadbjaa
open Go Go.Sx

/-- A disk of full power, all synced, bytes below 256. -/
structure Mir (D : DM) (frm : Nat) (n : Int) : Prop where
  sure : Sure D
  loose : D.loose = []
  byte : byteL D.now
  rng : 3 ≤ n ∧ (frm : Int) + n ≤ D.n
theorem serial_le (D : DM) (frm n : Int) (p : Nat) (hp : p < 2) : (lreadR D frm (64 * (n - 2)) (p : Int)).1.getD 0 0 ≤ (openH D frm n).getD 0 0 := by
  unfold openH
  rcases (by omega : p = 0 ∨ p = 1) with rfl | rfl
  · show (lreadR D frm (64 * (n - 2)) 0).1.getD 0 0 ≤ _
    split <;> omega
  · show (lreadR D frm (64 * (n - 2)) 1).1.getD 0 0 ≤ _
    split <;> omega
theorem Mir.head {D : DM} {frm : Nat} {n : Int} (h : Mir D frm n) : headOK (openH D frm n) ∧ (openH D frm n).getD 1 0 ≤ 64 * (n - 2) := by
  have hm : 0 ≤ 64 * (n - 2) := by have := h.rng.1; omega
  unfold openH
  split
  · exact lread_head h.sure.ok frm hm 1
  · exact lread_head h.sure.ok frm hm 0
theorem Mir.len {D : DM} {frm : Nat} {n : Int} (h : Mir D frm n) : (((openB D frm n).length : Nat) : Int) = (openH D frm n).getD 1 0 := by
  obtain ⟨h1, h2⟩ := h.head
  have h0 := h1.2.2.1
  have hn := h.sure.ok.now
  obtain ⟨r1, r2⟩ := h.rng
  have hs : (openL D frm n).size = (openH D frm n).getD 1 0 := rfl
  unfold openB bytesAt
  rw [List.length_take, List.length_drop, hs]
  omega
theorem Mir.at {D : DM} {frm : Nat} {n : Int} (_ : Mir D frm n) {t : Nat} (ht : t < (openB D frm n).length) : D.now[64 * (frm + 2) + t]? = (openB D frm n)[t]? := by
  unfold openB bytesAt at ht ⊢
  rw [List.length_take] at ht
  rw [List.getElem?_take, if_pos (by omega), List.getElem?_drop]
  congr 1
theorem be8_byte (x : Int) : byteL (be8 x) := by
  intro b hb
  unfold be8 at hb
  simp only [List.mem_cons, List.mem_nil_iff, or_false] at hb
  rcases hb with rfl | rfl | rfl | rfl | rfl | rfl | rfl | rfl <;> omega
theorem half_byte {h : List Int} (hn : byteL (h.drop 2)) : byteL (halfL h) := by
  intro b hb
  unfold halfL at hb
  rcases List.mem_append.1 hb with hb | hb
  · rcases List.mem_append.1 hb with hb | hb
    · exact be8_byte _ b hb
    · exact be8_byte _ b hb
  · exact hn b (List.mem_of_mem_take hb)
theorem secA_byte {all : List Int} (h : byteL all) (i : Nat) : byteL (secA all i) := by
  intro b hb
  unfold secA at hb
  obtain ⟨j, _, rfl⟩ := List.mem_map.1 hb
  cases hg : all[64 * i + j]? with
  | none => exact ⟨Int.le_refl _, by decide⟩
  | some z => exact h z (List.mem_of_getElem? hg)
theorem fillGo_byte (frm : Nat) (all : List Int) (ha : byteL all) : ∀ (f i : Nat) (D : DM), Sure D → byteL D.now → all.length + 64 * (frm + 2) ≤ 64 * D.n → byteL (fillGo frm all f i D).2.now := by
  intro f
  induction f with
  | zero =>
    intro i D h hb _
    obtain ⟨_, _, c, _⟩ := syncR_sure h
    show byteL (syncR D).2.now
    rw [c]; exact hb
  | succ f ih =>
    intro i D h hb h2
    by_cases hlt : 64 * i < all.length
    · have hi : D.has ((frm : Int) + 2 + i) = true := by unfold DM.has; simp only [decide_eq_true_eq]; omega
      have hw := writeR_sure h hi (secA_length all i)
      have e : fillGo frm all (f + 1) i D = fillGo frm all f (i + 1) (putD D ((frm : Int) + 2 + i) (secA all i)) := by
        show (if 64 * i < all.length then _ else _) = _
        rw [if_pos hlt, hw]; simp
      rw [e]
      refine ih (i + 1) _ (putD_sure h hi (secA_length all i)) (fun b hb' => ?_) h2
      rcases splice_mem hb' with hb' | hb'
      · exact hb b hb'
      · exact secA_byte ha i b hb'
    · have e : fillGo frm all (f + 1) i D = syncR D := by
        show (if 64 * i < all.length then _ else _) = _
        rw [if_neg hlt]
      rw [e]
      obtain ⟨_, _, c, _⟩ := syncR_sure h
      rw [c]; exact hb
theorem syncR_loose {D : DM} (h : Sure D) : (syncR D).2.loose = [] := by
  unfold syncR
  rw [if_neg (by rw [h.gone]; simp), if_neg (by rw [h.fuse]; decide)]
/-- A head is written: it is what is opened. -/
theorem Mir.turn {D F : DM} {frm : Nat} {n k size : Int} {nt : List Int} (h : Mir D frm n) (hF : Sure F) (hFn : F.n = D.n) (hFb : byteL F.now) (hsame : ∀ j, j < 64 * (frm + 2) → F.now[j]? = D.now[j]?)
    (hk : k = (openH D frm n).getD 0 0) (hk2 : k < 4611686018427387904) (hs : 0 ≤ size ∧ size ≤ 64 * (n - 2)) (hnt : nt.length = 16) (hnb : byteL nt) :
    (turnR F frm ((k + 1) :: size :: nt)).1 = 0 ∧ Mir (turnR F frm ((k + 1) :: size :: nt)).2 frm n ∧ (turnR F frm ((k + 1) :: size :: nt)).2.n = D.n ∧ openH (turnR F frm ((k + 1) :: size :: nt)).2 frm n = (k + 1) :: size :: nt ∧ ∀ j, 64 * (frm + 2) ≤ j → (turnR F frm ((k + 1) :: size :: nt)).2.now[j]? = F.now[j]? := by
  obtain ⟨r1, r2⟩ := h.rng
  have hDn := h.sure.ok.n
  obtain ⟨hok, _⟩ := h.head
  have hk0 : 0 ≤ k := by rw [hk]; exact hok.2.1.1
  obtain ⟨K, rfl⟩ := Int.eq_ofNat_of_zero_le hk0
  obtain ⟨N, hN⟩ : ∃ N, N = ((K : Int) + 1) :: size :: nt := ⟨_, rfl⟩
  rw [← hN]
  have hp : ((K : Int) + 1).tmod 2 = (((K + 1) % 2 : Nat) : Int) := by
    rw [Int.tmod_eq_emod_of_nonneg (by omega)]; omega
  obtain ⟨p, hpp⟩ : ∃ p, p = (K + 1) % 2 := ⟨_, rfl⟩
  have hp2 : p < 2 := by omega
  obtain ⟨b1, b2, b3, b4⟩ := half_head (a := (K : Int) + 1) (b := size) (nt := nt) ⟨by omega, by omega⟩ ⟨hs.1, by omega⟩ hnt
  rw [← hN] at b1 b2 b3 b4
  have hhl : (halfL N ++ halfL N).length = 64 := by rw [List.length_append, b1]
  have ei : ∀ q : Nat, (frm : Int) + ((q : Nat) : Int) = ((frm + q : Nat) : Int) := fun q => by omega
  have hasF : ∀ q : Nat, q < 2 → F.has ((frm : Int) + (q : Int)) = true := fun q hq => by unfold DM.has; rw [hFn]; simp only [decide_eq_true_eq]; omega
  have hasD : ∀ q : Nat, q < 2 → D.has ((frm : Int) + (q : Int)) = true := fun q hq => by unfold DM.has; simp only [decide_eq_true_eq]; omega
  have hw := writeR_sure hF (hasF p hp2) hhl
  obtain ⟨G, hG⟩ : ∃ G, G = putD F ((frm : Int) + (p : Int)) (halfL N ++ halfL N) := ⟨_, rfl⟩
  rw [← hG] at hw
  have hGs : Sure G := by rw [hG]; exact putD_sure hF (hasF p hp2) hhl
  have hGn : G.n = D.n := by rw [hG, ← hFn]; rfl
  have hGg := putD_get hF.ok (hasF p hp2) hhl
  rw [← hG, ei p, Int.toNat_natCast] at hGg
  obtain ⟨s1, s2, s3, s4⟩ := syncR_sure hGs
  have htn : turnR F frm N = syncR G := by
    unfold turnR
    have e0 : N.getD 0 0 = (K : Int) + 1 := by rw [hN]; rfl
    rw [e0, hp, ← hpp, hw]; simp
  rw [htn]
  have hlp : lreadR (syncR G).2 frm (64 * (n - 2)) (p : Int) = (N, 0) := by
    have hi : (syncR G).2.has ((frm : Int) + (p : Int)) = true := by unfold DM.has; rw [s4, hGn]; exact hasD p hp2
    have hsec : (syncR G).2.sector ((frm : Int) + (p : Int)) = halfL N ++ halfL N := by
      unfold DM.sector
      rw [s3, ei p, Int.toNat_natCast]
      apply List.ext_getElem?
      intro j
      rw [List.getElem?_take]
      split
      · rw [List.getElem?_drop, hGg, if_pos (by omega)]
        congr 1; omega
      · rw [List.getElem?_eq_none (by omega)]
    rw [lread_sector s2 hi, hsec]
    have ht : (halfL N ++ halfL N).take 32 = halfL N := by rw [List.take_left' b1]
    have hdr : (halfL N ++ halfL N).drop 32 = halfL N := by rw [List.drop_left' b1]
    rw [if_pos, ht, b2, hN]
    unfold goodH
    rw [ht, hdr, b3, b4]
    exact ⟨rfl, by rw [hp, hpp], hs.2⟩
  have hlo : ∀ c : Nat, c < 2 → c ≠ p → (lreadR (syncR G).2 frm (64 * (n - 2)) (c : Int)).1.getD 0 0 ≤ K := by
    intro c hc2 hcp
    have hsec : (syncR G).2.sector ((frm : Int) + (c : Int)) = D.sector ((frm : Int) + (c : Int)) := by
      refine sector_same fun j h1 h2 => ?_
      rw [ei c, Int.toNat_natCast] at h1 h2
      rw [s3, hGg, if_neg (by omega)]
      exact hsame j (by omega)
    rw [lread_same h.sure s2 (by rw [s4, hGn]) (hasD c hc2) hsec]
    have := serial_le D frm n c hc2
    rw [← hk] at this
    exact this
  have hN0 : N.getD 0 0 = (K : Int) + 1 := by rw [hN]; rfl
  refine ⟨s1, ⟨s2, syncR_loose hGs, ?_, r1, by rw [s4, hGn]; exact r2⟩, by rw [s4, hGn], ?_, fun j hj => ?_⟩
  · intro b hb
    rw [s3, hG] at hb
    rcases splice_mem hb with hb | hb
    · exact hFb b hb
    · have hnd : byteL (N.drop 2) := by rw [hN]; exact hnb
      rcases List.mem_append.1 hb with hb | hb
      · exact half_byte hnd b hb
      · exact half_byte hnd b hb
  · unfold openH
    rcases (by omega : p = 0 ∨ p = 1) with e | e
    · have h0 : lreadR (syncR G).2 frm (64 * (n - 2)) 0 = (N, 0) := by rw [e] at hlp; exact hlp
      have h1 : (lreadR (syncR G).2 frm (64 * (n - 2)) 1).1.getD 0 0 ≤ K := hlo 1 (by omega) (by omega)
      rw [h0]
      show (if N.getD 0 0 < _ then _ else N) = N
      rw [hN0, if_neg (by omega)]
    · have h1 : lreadR (syncR G).2 frm (64 * (n - 2)) 1 = (N, 0) := by rw [e] at hlp; exact hlp
      have h0 : (lreadR (syncR G).2 frm (64 * (n - 2)) 0).1.getD 0 0 ≤ K := hlo 0 (by omega) (by omega)
      rw [h1]
      show (if _ < N.getD 0 0 then N else _) = N
      rw [hN0, if_pos (by omega)]
  · rw [s3, hGg, if_neg (by omega)]
theorem Mir.append {D : DM} {frm : Nat} {n : Int} (h : Mir D frm n) {b nt : List Int} (hk : (openH D frm n).getD 0 0 < 4611686018427387904) (hb : ((openB D frm n).length : Int) + b.length ≤ 64 * (n - 2)) (hnt : nt.length = 16) (hbb : byteL b) (hnb : byteL nt) :
    (appendR D (openL D frm n) (openB D frm n) b nt).e = 0 ∧ Mir (appendR D (openL D frm n) (openB D frm n) b nt).D frm n ∧ (appendR D (openL D frm n) (openB D frm n) b nt).D.n = D.n ∧
    (appendR D (openL D frm n) (openB D frm n) b nt).L = openL (appendR D (openL D frm n) (openB D frm n) b nt).D frm n ∧ (appendR D (openL D frm n) (openB D frm n) b nt).bs = openB (appendR D (openL D frm n) (openB D frm n) b nt).D frm n ∧
    (appendR D (openL D frm n) (openB D frm n) b nt).bs = openB D frm n ++ b ∧ (appendR D (openL D frm n) (openB D frm n) b nt).L.serial = (openL D frm n).serial + 1 ∧ (appendR D (openL D frm n) (openB D frm n) b nt).L.note = nt := by
  obtain ⟨r1, r2⟩ := h.rng
  obtain ⟨L, hL⟩ : ∃ L, L = openL D frm n := ⟨_, rfl⟩
  obtain ⟨bs, hbs⟩ : ∃ bs, bs = openB D frm n := ⟨_, rfl⟩
  have hat := @Mir.at D frm n h
  rw [← hbs] at hb hat
  have f1 : L.frm = frm := by rw [hL]; rfl
  have f2 : L.most = 64 * (n - 2) := by rw [hL]; rfl
  have f3 : L.serial = (openH D frm n).getD 0 0 := by rw [hL]; rfl
  have f4 : L.over = false := by rw [hL]; rfl
  rw [← hL, ← hbs]
  have hal : (bs ++ b).length = bs.length + b.length := List.length_append
  have hbsb : byteL bs := by
    rw [hbs]
    intro z hz
    unfold openB bytesAt at hz
    exact h.byte z (List.mem_of_mem_drop (List.mem_of_mem_take hz))
  have hallb : byteL (bs ++ b) := fun z hz => by
    rcases List.mem_append.1 hz with hz | hz
    · exact hbsb z hz
    · exact hbb z hz
  obtain ⟨a1, a2, a3, a4, a5⟩ := fillGo_sure frm (bs ++ b) ((bs ++ b).length + 1) (bs.length / 64) D h.sure (by omega) (by omega)
  have a6 := fillGo_byte frm (bs ++ b) hallb ((bs ++ b).length + 1) (bs.length / 64) D h.sure h.byte (by omega)
  have efr : fillR D L.frm (bs ++ b) bs.length = fillGo frm (bs ++ b) ((bs ++ b).length + 1) (bs.length / 64) D := by
    unfold fillR
    rw [f1, show (((bs.length : Nat) : Int) / 64).toNat = bs.length / 64 by omega]
  rw [← efr] at a1 a2 a3 a4 a5 a6
  obtain ⟨F, hF⟩ : ∃ F, F = (fillR D L.frm (bs ++ b) bs.length).2 := ⟨_, rfl⟩
  rw [← hF] at a2 a3 a4 a5 a6
  obtain ⟨t1, t2, t3, t4, t5⟩ := h.turn (F := F) (k := L.serial) (size := (bs ++ b).length) (nt := nt) a2 a3 a6 (fun j hj => a4 j (by omega)) f3 (by rw [f3]; exact hk) ⟨by omega, by rw [hal]; omega⟩ hnt hnb
  have eN : newH L (bs ++ b) nt = (L.serial + 1) :: ((bs ++ b).length : Int) :: nt := rfl
  rw [← eN] at t1 t2 t3 t4 t5
  rw [← f1] at t1 t2 t3 t4 t5
  have hbec : becomeR D L (bs ++ b) nt bs.length = (0, (turnR F L.frm (newH L (bs ++ b) nt)).2) := by
    unfold becomeR
    rw [if_neg (by rw [a1]; simp), ← hF, if_neg (by rw [t1]; simp)]
  have happ : appendR D L bs b nt = ⟨0, (turnR F L.frm (newH L (bs ++ b) nt)).2, grownL L (bs ++ b) nt, bs ++ b⟩ := by
    unfold appendR
    rw [f4, if_neg (by simp), if_neg (by rw [f3]; omega), if_neg (by rw [f2]; omega), hbec]; rfl
  rw [happ]
  obtain ⟨G, hG⟩ : ∃ G, G = (turnR F L.frm (newH L (bs ++ b) nt)).2 := ⟨_, rfl⟩
  rw [← hG] at t2 t3 t4 t5
  rw [← hG]
  rw [f1] at t4
  refine ⟨rfl, t2, t3, ?_, ?_, rfl, rfl, rfl⟩
  · show grownL L (bs ++ b) nt = headL frm (64 * (n - 2)) (openH G frm n)
    rw [t4, eN]
    unfold grownL headL
    rw [f1, f2, f4]; rfl
  · show bs ++ b = openB G frm n
    have hsz : (openL G frm n).size = ((bs ++ b).length : Nat) := by
      show (openH G frm n).getD 1 0 = _
      rw [t4]; rfl
    unfold openB bytesAt
    rw [hsz, Int.toNat_natCast]
    apply List.ext_getElem?
    intro t
    rw [List.getElem?_take]
    split
    · rename_i ht
      rw [List.getElem?_drop, show 64 * ((frm : Int) + 2).toNat + t = 64 * (frm + 2) + t by omega, t5 _ (by rw [f1] at *; omega)]
      rcases Nat.lt_or_ge t (64 * (bs.length / 64)) with h1 | h1
      · rw [a4 _ (by omega), List.getElem?_append_left (by omega)]
        exact (hat (by omega)).symm
      · exact (a5 t h1 ht).symm
    · rw [List.getElem?_eq_none (by omega)]
end Go.Proofs.Ytnpepkjfeadbjaa
