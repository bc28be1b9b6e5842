/- Layer 8: what is cleared, and what others write ahead of a crash: plain facts. -/
import Derived.Test.YtnpepkjfeadbjaaCelV
import Derived.Test.YtnpepkjfeadbjaaCelW
import Derived.Test.YtnpepkjfeadbjaaDsI
set_option linter.unusedSimpArgs false
set_option linter.unusedVariables false
set_option linter.constructorNameAsVariable false
namespace Go.Proofs.Ytnpepkjfeadbjaa
open Go Go.Sx

theorem Mir.noteb {D : DM} {frm : Nat} {n : Int} (h : Mir D frm n) : byteL ((openH D frm n).drop 2) := by
  have key : ∀ p : Nat, p < 2 → byteL ((lreadR D frm (64 * (n - 2)) (p : Int)).1.drop 2) := by
    intro p hp
    obtain ⟨r1, r2⟩ := h.rng
    have hi : D.has ((frm : Int) + (p : Int)) = true := by unfold DM.has; simp only [decide_eq_true_eq]; omega
    rw [lread_sector h.sure hi]
    split
    · intro b hb
      have hb : b ∈ (((D.sector ((frm : Int) + (p : Int))).take 32).drop 16).take 16 := hb
      have hb := List.mem_of_mem_take (List.mem_of_mem_drop (List.mem_of_mem_take hb))
      unfold DM.sector at hb
      exact h.byte b (List.mem_of_mem_drop (List.mem_of_mem_take hb))
    · intro b hb
      have hb : b ∈ List.replicate 16 (0 : Int) := hb
      have := List.eq_of_mem_replicate hb
      omega
  unfold openH
  split
  · exact key 1 (by omega)
  · exact key 0 (by omega)
theorem Mir.note16 {D : DM} {frm : Nat} {n : Int} (h : Mir D frm n) : (openL D frm n).note.length = 16 := by
  have := h.head.1.1
  show ((openH D frm n).drop 2).length = 16
  rw [List.length_drop]; omega
theorem Mir.clear {D : DM} {frm : Nat} {n : Int} (h : Mir D frm n) {bs : List Int} (hk : (openH D frm n).getD 0 0 < 4611686018427387904) :
    (clearR D (openL D frm n) bs).e = 0 ∧ Mir (clearR D (openL D frm n) bs).D frm n ∧ (clearR D (openL D frm n) bs).D.n = D.n ∧
    (clearR D (openL D frm n) bs).L = openL (clearR D (openL D frm n) bs).D frm n ∧ (clearR D (openL D frm n) bs).bs = openB (clearR D (openL D frm n) bs).D frm n ∧
    (clearR D (openL D frm n) bs).bs = [] ∧ (clearR D (openL D frm n) bs).L.serial = (openL D frm n).serial + 1 ∧ (clearR D (openL D frm n) bs).L.note = (openL D frm n).note := by
  have hn16 := h.note16
  have hnb : byteL (openL D frm n).note := h.noteb
  obtain ⟨r1, r2⟩ := h.rng
  obtain ⟨L, hL⟩ : ∃ L, L = openL D frm n := ⟨_, rfl⟩
  rw [← hL] at hn16 hnb
  have f1 : L.frm = frm := by rw [hL]; rfl
  have f2 : L.most = 64 * (n - 2) := by rw [hL]; rfl
  have f3 : L.serial = (openH D frm n).getD 0 0 := by rw [hL]; rfl
  have f4 : L.over = false := by rw [hL]; rfl
  rw [← hL]
  obtain ⟨t1, t2, t3, t4, t5⟩ := h.turn (F := D) (k := L.serial) (size := 0) (nt := L.note) h.sure rfl h.byte (fun j hj => rfl) f3 (by rw [f3]; exact hk) ⟨by omega, by omega⟩ hn16 hnb
  have eN : newH L [] L.note = (L.serial + 1) :: 0 :: L.note := rfl
  rw [← eN] at t1 t2 t3 t4 t5
  rw [← f1] at t1 t2 t3 t4 t5
  have hc : clearR D L bs = ⟨0, (turnR D L.frm (newH L [] L.note)).2, grownL L [] L.note, []⟩ := by
    unfold clearR
    rw [f4, if_neg (by simp), if_neg (by rw [f3]; omega), if_pos t1]
  rw [hc]
  obtain ⟨G, hG⟩ : ∃ G, G = (turnR D L.frm (newH L [] L.note)).2 := ⟨_, rfl⟩
  rw [← hG] at t2 t3 t4
  rw [← hG]
  rw [f1] at t4
  refine ⟨rfl, t2, t3, ?_, ?_, rfl, rfl, rfl⟩
  · show grownL L [] L.note = headL frm (64 * (n - 2)) (openH G frm n)
    rw [t4, eN]
    unfold grownL headL
    rw [f1, f2, f4]; rfl
  · show [] = openB G frm n
    have hsz : (openL G frm n).size = 0 := by
      show (openH G frm n).getD 1 0 = _
      rw [t4]; rfl
    unfold openB bytesAt
    rw [hsz]; rfl
theorem torn64 {was now : List Int} (h : now.length = 64) : tornI was now 64 = now := by
  unfold tornI
  apply List.ext_getElem?
  intro j
  rw [List.getElem?_map]
  rcases Nat.lt_or_ge j 64 with hj | hj
  · rw [List.getElem?_range hj, Option.map_some]
    have : stays 64 j = true := by unfold stays; rw [if_pos (by decide)]; simp; omega
    rw [this, if_pos rfl, List.getD_eq_getElem?_getD, List.getElem?_eq_getElem (by omega)]; rfl
  · rw [List.getElem?_eq_none (by simp; omega), List.getElem?_eq_none (by omega)]; rfl
theorem splice_self {l : List Int} {o m : Nat} (h : o + m ≤ l.length) : splice l o ((l.drop o).take m) = l := by
  apply List.ext_getElem?
  intro j
  rw [Sx.splice_get (by rw [List.length_take, List.length_drop]; omega), List.length_take, List.length_drop]
  split
  · rw [List.getElem?_take, if_pos (by omega), List.getElem?_drop]
    congr 1; omega
  · rfl
theorem crashN64 {D : DM} (h : D.ok) (ks : List Int) (hk : ∀ k ∈ ks, 0 ≤ k ∧ k < D.n) : ∀ i, i ≤ ks.length → crashN D.loose [64] D.now ks i = D.now
  | 0, _ => rfl
  | i + 1, hi => by
    have hm : ks.getD i 0 ∈ ks := by
      rw [List.getD_eq_getElem?_getD, List.getElem?_eq_getElem (by omega), Option.getD_some]
      exact List.getElem_mem _
    have hb := hk _ hm
    have hf : fateAt [64] i = 64 := by
      unfold fateAt
      rw [if_neg (by simp)]
      have : i % ([64] : List Int).length = 0 := by simp [Nat.mod_one]
      rw [this]; rfl
    unfold crashN
    rw [crashN64 h ks hk i (by omega), hf, torn64 (secOf_length h.now (by omega) (by omega))]
    exact splice_self (by rw [h.now]; omega)
theorem crash64 {D : DM} (h : D.ok) (hb : byteL D.now) : Sure (crashD D [64]) ∧ (crashD D [64]).loose = [] ∧ (crashD D [64]).now = D.now ∧ (crashD D [64]).n = D.n := by
  refine ⟨⟨crashD_ok h _, rfl, rfl⟩, rfl, ?_, rfl⟩
  exact crashN64 h _ (fun k hk => by
    obtain ⟨p, hp, rfl⟩ := List.mem_map.1 (sortK_mem.1 hk)
    exact (h.loose p hp).2) _ (by rw [sortK_length, List.length_map]; exact Nat.le_refl _)
theorem Mir.crash {D : DM} {frm : Nat} {n : Int} (hs : D.ok) (hb : byteL D.now) (hr : 3 ≤ n ∧ (frm : Int) + n ≤ D.n) : Mir (crashD D [64]) frm n := by
  obtain ⟨a, b, c, d⟩ := crash64 hs hb
  exact ⟨a, b, by rw [c]; exact hb, hr.1, by rw [d]; exact hr.2⟩
theorem Mir.openE {D : DM} {frm : Nat} {n : Int} (h : Mir D frm n) : openE D frm n = 0 := by
  obtain ⟨h1, h2⟩ := h.rng
  unfold Go.Proofs.Ytnpepkjfeadbjaa.openE
  rw [if_neg (by omega), h.sure.gone]; rfl
theorem Mir.size {D : DM} {frm : Nat} {n : Int} (h : Mir D frm n) : ((openB D frm n).length : Int) ≤ 64 * (n - 2) ∧ (openB D frm n).length ≤ 1048576 := by
  have h1 := h.len
  have h2 := h.head.2
  have h3 := h.rng
  have h4 := h.sure.ok.n
  omega
/-- What is written by others. -/
theorem Mir.write {D : DM} {frm : Nat} {n : Int} (h : Mir D frm n) (i : Int) {bs : List Int} (hl : bs.length = 64) (hb : byteL bs) :
    (writeR D i bs).2.ok ∧ byteL (writeR D i bs).2.now ∧ (writeR D i bs).2.n = D.n ∧ (writeR D i bs).2.loose.length ≤ 1000000 := by
  by_cases hi : D.has i = true
  · rw [writeR_sure h.sure hi hl]
    refine ⟨putD_ok h.sure.ok hi hl, fun b hb' => ?_, rfl, ?_⟩
    · rcases splice_mem hb' with hb' | hb'
      · exact h.byte b hb'
      · exact hb b hb'
    · show (if (mapGo i (lv D.loose) 0).isSome then D.loose else D.loose ++ [(i, D.sector i)]).length ≤ _
      rw [h.loose]
      split <;> simp
  · have : writeR D i bs = (1, D) := by
      unfold writeR
      rw [if_pos (Or.inl (by simpa using hi))]
    rw [this]
    exact ⟨h.sure.ok, h.byte, rfl, by rw [h.loose]; simp⟩
theorem newD_mir {m n : Int} {frm : Nat} (hm : 0 ≤ m ∧ m ≤ 16384) (hn : 3 ≤ n) (hr : (frm : Int) + n ≤ m) : Mir (newD m) frm n := by
  have hs : sects m = m.toNat := by unfold sects; omega
  have hnn : (newD m).n = m.toNat := hs
  refine ⟨newD_sure m, rfl, fun b hb => ?_, hn, by rw [hnn]; omega⟩
  have := List.eq_of_mem_replicate hb
  omega
/-! ### Contracts at known logs -/
theorem append_pre {p u dp : Value} {H HD R : Hl} {L : LM} {bs b nt : List Int} {D : DM} (h1 : LogAt H p dp L bs) (h2 : DiskAt HD dp D) (h3 : RdW R u b) (hb : bs.length ≤ 1048576) (hn : nt.length = 16) (h0 : 0 ≤ L.serial) : appendS.pre [p, u, .agg (bys nt).toArray] [H, HD] [R] :=
  ⟨p, u, b, nt, H, HD, R, dp, L, bs, D, rfl, rfl, rfl, h1, h2, h3, hb, hn, h0⟩
theorem clear_pre {p dp : Value} {H HD : Hl} {L : LM} {bs : List Int} {D : DM} (h1 : LogAt H p dp L bs) (h2 : DiskAt HD dp D) (h0 : 0 ≤ L.serial) : clearS.pre [p] [H, HD] [] :=
  ⟨p, H, HD, dp, L, bs, D, rfl, rfl, h1, h2, h0⟩
theorem state_pre {p dp : Value} {H : Hl} {L : LM} {bs : List Int} (h : LogAt H p dp L bs) (hb : bs.length ≤ 1048576) : stateS.pre [p] [] [H, H] :=
  ⟨p, H, H, dp, L, bs, rfl, rfl, h, hb⟩
theorem state_post {p dp v : Value} {H F : Hl} {K : List Hl} {L : LM} {bs : List Int} (h : LogAt H p dp L bs) (hp : stateS.post [p] [] [H, H] v K F) : ∃ sl, v = stV L.serial L.note sl ∧ OwB F 5 sl bs := by
  obtain ⟨p', R1, R2, dp', L', bs', sl', hx, hR, hL, hv, hO⟩ := hp
  have hx : p = p' := by simpa using hx
  subst hx
  have hR : H = R1 ∧ H = R2 := by simpa using hR
  obtain ⟨e1, e2⟩ := hR
  subst e1
  obtain ⟨e1, e2, e3⟩ := hL.uniq h
  subst e1 e2 e3
  exact ⟨sl', hv, hO⟩
theorem same_pre {s1 s2 : Int} {n1 n2 b1 b2 : List Int} {u1 u2 : Value} {R1 R2 : Hl} (h1 : n1.length = 16) (h2 : n2.length = 16) (hb1 : RdB R1 u1 b1) (hb2 : RdB R2 u2 b2) : sameS.pre [stV s1 n1 u1, stV s2 n2 u2] [] [R1, R2] :=
  ⟨s1, n1, u1, s2, n2, u2, b1, b2, R1, R2, rfl, rfl, h1, h2, hb1, hb2⟩
theorem same_post {s1 : Int} {n1 b1 : List Int} {u1 u2 v : Value} {R1 R2 F : Hl} {K : List Hl} (h1 : n1.length = 16) (hb1 : RdB R1 u1 b1) (hb2 : RdB R2 u2 b1) (hp : sameS.post [stV s1 n1 u1, stV s1 n1 u2] [] [R1, R2] v K F) : v = .bool true := by
  obtain ⟨s1', n1', u1', s2', n2', u2', b1', b2', R1', R2', hx, hR, hm1, hm2, hB1, hB2, hv⟩ := hp
  have hx : stV s1 n1 u1 = stV s1' n1' u1' ∧ stV s1 n1 u2 = stV s2' n2' u2' := by simpa using hx
  obtain ⟨ea1, ea2, ea3⟩ := stV_inj h1 hm1 hx.1
  obtain ⟨eb1, eb2, eb3⟩ := stV_inj h1 hm2 hx.2
  have hR : R1 = R1' ∧ R2 = R2' := by simpa using hR
  obtain ⟨e1, e2⟩ := hR
  subst e1 e2 ea3 eb3
  exact hv (by rw [← ea1, ← eb1]) (by rw [← ea2, ← eb2]) (by rw [hB1.uniq hb1, hB2.uniq hb2])
theorem disk_num {num : DM → Int} {f : FuncId} {p v : Value} {H F : Hl} {K Rs : List Hl} {D : DM} (h : DiskAt H p D) (hp : (numS f num).post [p] [H] Rs v K F) : ∃ H', K = [H'] ∧ DiskAt H' p D ∧ v = .int .i64 (num D) := by
  obtain ⟨p', Hx, D', H', hx, hH, hD, hK, hD2, hv⟩ := hp
  have hx : p = p' := by simpa using hx
  subst hx
  have hH : H = Hx := by simpa using hH
  subst hH
  have e := hD.uniq h
  subst e
  exact ⟨H', hK, hD2, hv⟩
end Go.Proofs.Ytnpepkjfeadbjaa
