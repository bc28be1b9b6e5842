/- Layer 12: formed headers of the same bytes are the same. Plain laws. -/
import Derived.Test.YtkdllpialpfopaaHdJ
set_option linter.unusedSimpArgs false
set_option linter.unusedVariables false
set_option linter.constructorNameAsVariable false
namespace Go.Proofs.Ytkdllpialpfopaa
open Go Go.Sx Go.Pk

theorem lawQ {R : Hl} {row : List Value} {h : Hd} (hx : IsHd R row h) (hF : h.Form) : (cI (prH (hdB h)).c 0 = cI h.c 0 ∧ cI (prH (hdB h)).c 1 = cI h.c 1 ∧ cI (prH (hdB h)).c 34 = cI h.c 34 ∧ cB (prH (hdB h)).c 35 = cB h.c 35 ∧ cI (prH (hdB h)).c 36 = cI h.c 36 ∧ cI (prH (hdB h)).c 54 = cI h.c 54 ∧ cI (prH (hdB h)).c 55 = cI h.c 55 ∧ cI (prH (hdB h)).c 56 = cI h.c 56 ∧ cI (prH (hdB h)).c 57 = cI h.c 57 ∧ cI (prH (hdB h)).c 58 = cI h.c 58 ∧ cI (prH (hdB h)).c 59 = cI h.c 59 ∧ cI (prH (hdB h)).c 92 = cI h.c 92) ∧ (segI (prH (hdB h)).c 2 32 = segI h.c 2 32 ∧ segI (prH (hdB h)).c 37 16 = segI h.c 37 16 ∧ segI (prH (hdB h)).c 60 32 = segI h.c 60 32 ∧ segI (prH (hdB h)).c 93 32 = segI h.c 93 32) ∧ (prH (hdB h)).t = h.t := by
  obtain ⟨⟨hw, hs, he, ht, hk, hkn, hp⟩, h8, hso, hpd, hct⟩ := id hF
  have u : ∀ {k : Nat}, hkd[k]? = some (.int .u64) → k ≠ 53 → 0 ≤ cI h.c k := fun {k} hk h53 => by
    rw [hx.I h53]; exact (hx.rng _ (List.mem_of_getElem? (row_u64 hx.ok hk))).1
  have u1 : 0 ≤ cI h.c 1 := u rfl (by decide)
  have u36 : 0 ≤ cI h.c 36 := u rfl (by decide)
  have u54 : 0 ≤ cI h.c 54 := u rfl (by decide)
  have u55 : 0 ≤ cI h.c 55 := u rfl (by decide)
  have u56 : 0 ≤ cI h.c 56 := u rfl (by decide)
  have u57 : 0 ≤ cI h.c 57 := u rfl (by decide)
  have u58 : 0 ≤ cI h.c 58 := u rfl (by decide)
  have u59 : 0 ≤ cI h.c 59 := u rfl (by decide)
  have hsz : 80 ≤ cI h.c 92 ∧ cI h.c 92 ≤ 2064 := isPad_in hpd
  have ht16 : ∀ t ∈ h.t, t.length = 16 := fun t ht => (hx.byte.2 t ht).1
  generalize hb : hdB h = b
  have key : b = numB (cI h.c 0).toNat ++ (numB (cI h.c 1).toNat ++ (segI h.c 2 32 ++ (numB (cI h.c 34).toNat ++ (flagB (cB h.c 35) ++ (numB (cI h.c 36).toNat ++ (segI h.c 37 16 ++ (numB h.t.length ++ (h.t.flatten ++ (numB (cI h.c 54).toNat ++ (numB (cI h.c 55).toNat ++ (numB (cI h.c 56).toNat ++ (numB (cI h.c 57).toNat ++ (numB (cI h.c 58).toNat ++ (numB (cI h.c 59).toNat ++ (segI h.c 60 32 ++ (numB (cI h.c 92).toNat ++ (segI h.c 93 32 ++ ([])))))))))))))))))) := by
    rw [← hb]
    unfold hdB coreB coreZ coreA
    rw [u64N_id (z := cI h.c 0) (by omega) (by omega), u64N_id (z := cI h.c 34) (by omega) (by omega), u64N_id (z := cI h.c 92) (by omega) (by omega)]
    simp only [List.append_assoc, List.append_nil]
  have s0 : p0 b = ⟨_, false⟩ := congrArg (fun l => PS.mk l false) key
  obtain ⟨s1, v1⟩ := numS' (m := 6) (z := (cI h.c 0).toNat) s0 (by omega) (by omega)
  have s1 : p1 b = ⟨_, false⟩ := s1
  obtain ⟨s2, v2⟩ := numS' (m := 1048576) (z := (cI h.c 1).toNat) s1 (by omega) (by omega)
  have s2 : p2 b = ⟨_, false⟩ := s2
  obtain ⟨s3, v3⟩ := rawS' (n := 32) (l := segI h.c 2 32) s2 (by rw [segI_len]; rfl)
  have s3 : p3 b = ⟨_, false⟩ := s3
  obtain ⟨s4, v4⟩ := numS' (m := 255) (z := (cI h.c 34).toNat) s3 (by omega) (by omega)
  have s4 : p4 b = ⟨_, false⟩ := s4
  obtain ⟨s5, v5⟩ := flagS' s4
  have s5 : p5 b = ⟨_, false⟩ := s5
  obtain ⟨s6, v6⟩ := numS' (m := 1099511627776) (z := (cI h.c 36).toNat) s5 (by omega) (by omega)
  have s6 : p6 b = ⟨_, false⟩ := s6
  obtain ⟨s7, v7⟩ := rawS' (n := 16) (l := segI h.c 37 16) s6 (by rw [segI_len]; rfl)
  have s7 : p7 b = ⟨_, false⟩ := s7
  obtain ⟨s8, v8⟩ := numS' (m := 8) (z := h.t.length) s7 (by omega) (by omega)
  have s8 : p8 b = ⟨_, false⟩ := s8
  have vN : hN b = h.t.length := by unfold hN; rw [v8]; exact Int.toNat_natCast _
  have sT := toksS' s8 ht16
  rw [← vN] at sT
  have s9 : (pToks (hN b) (p8 b)).2 = ⟨_, false⟩ := congrArg Prod.snd sT
  have vT : hT b = h.t := congrArg Prod.fst sT
  have s9 : k0 b = ⟨_, false⟩ := s9
  obtain ⟨s10, v10⟩ := numS' (m := 1048576) (z := (cI h.c 54).toNat) s9 (by omega) (by omega)
  have s10 : k1 b = ⟨_, false⟩ := s10
  obtain ⟨s11, v11⟩ := numS' (m := 1048576) (z := (cI h.c 55).toNat) s10 (by omega) (by omega)
  have s11 : k2 b = ⟨_, false⟩ := s11
  obtain ⟨s12, v12⟩ := numS' (m := 1048576) (z := (cI h.c 56).toNat) s11 (by omega) (by omega)
  have s12 : k3 b = ⟨_, false⟩ := s12
  obtain ⟨s13, v13⟩ := numS' (m := 1048576) (z := (cI h.c 57).toNat) s12 (by omega) (by omega)
  have s13 : k4 b = ⟨_, false⟩ := s13
  obtain ⟨s14, v14⟩ := numS' (m := 1048576) (z := (cI h.c 58).toNat) s13 (by omega) (by omega)
  have s14 : k5 b = ⟨_, false⟩ := s14
  obtain ⟨s15, v15⟩ := numS' (m := 1048576) (z := (cI h.c 59).toNat) s14 (by omega) (by omega)
  have s15 : k6 b = ⟨_, false⟩ := s15
  obtain ⟨s16, v16⟩ := rawS' (n := 32) (l := segI h.c 60 32) s15 (by rw [segI_len]; rfl)
  have s16 : p15 b = ⟨_, false⟩ := s16
  obtain ⟨s17, v17⟩ := numS' (m := 2064) (z := (cI h.c 92).toNat) s16 (by omega) (by omega)
  have s17 : p16 b = ⟨_, false⟩ := s17
  obtain ⟨s18, v18⟩ := rawS' (n := 32) (l := segI h.c 93 32) s17 (by rw [segI_len]; rfl)
  have s18 : p17 b = ⟨_, false⟩ := s18
  have q0 : cI (prH b).c 0 = cI h.c 0 := (c_0 b).trans (v1.trans (by omega))
  have q1 : cI (prH b).c 1 = cI h.c 1 := (c_1 b).trans (v2.trans (by omega))
  have q34 : cI (prH b).c 34 = cI h.c 34 := (c_34 b).trans (v4.trans (by omega))
  have q36 : cI (prH b).c 36 = cI h.c 36 := (c_36 b).trans (v6.trans (by omega))
  have q54 : cI (prH b).c 54 = cI h.c 54 := (c_54 b).trans (v10.trans (by omega))
  have q55 : cI (prH b).c 55 = cI h.c 55 := (c_55 b).trans (v11.trans (by omega))
  have q56 : cI (prH b).c 56 = cI h.c 56 := (c_56 b).trans (v12.trans (by omega))
  have q57 : cI (prH b).c 57 = cI h.c 57 := (c_57 b).trans (v13.trans (by omega))
  have q58 : cI (prH b).c 58 = cI h.c 58 := (c_58 b).trans (v14.trans (by omega))
  have q59 : cI (prH b).c 59 = cI h.c 59 := (c_59 b).trans (v15.trans (by omega))
  have q92 : cI (prH b).c 92 = cI h.c 92 := (c_92 b).trans (v17.trans (by omega))
  have q35 : cB (prH b).c 35 = cB h.c 35 := (c_35 b).trans v5
  have g1 : segI (prH b).c 2 32 = segI h.c 2 32 := (c_2 b).trans (by rw [show vRaw 32 (p2 b) = _ from v3]; exact padN_id (segI_len _ _ _))
  have g2 : segI (prH b).c 37 16 = segI h.c 37 16 := (c_37 b).trans (by rw [show vRaw 16 (p6 b) = _ from v7]; exact padN_id (segI_len _ _ _))
  have g3 : segI (prH b).c 60 32 = segI h.c 60 32 := (c_60 b).trans (by rw [show vRaw 32 (k6 b) = _ from v16]; exact padN_id (segI_len _ _ _))
  have g4 : segI (prH b).c 93 32 = segI h.c 93 32 := (c_93 b).trans (by rw [show vRaw 32 (p16 b) = _ from v18]; exact padN_id (segI_len _ _ _))
  exact ⟨⟨q0, q1, q34, q35, q36, q54, q55, q56, q57, q58, q59, q92⟩, ⟨g1, g2, g3, g4⟩, vT⟩
theorem row_ext : ∀ {a b : List Value} {ks : List Kd}, rowOK a ks → rowOK b ks → (∀ k ∈ ks, (∃ i, k = .int i) ∨ k = .bool) → (∀ k, cI a k = cI b k) → (∀ k, cB a k = cB b k) → a = b
  | [], [], [], _, _, _, _, _ => rfl
  | x :: a, y :: b, k :: ks, ha, hb, hk, h1, h2 => by
    have e : a = b := row_ext ha.2 hb.2 (fun k h => hk k (List.mem_cons_of_mem _ h)) (fun k => h1 (k + 1)) (fun k => h2 (k + 1))
    have i0 := h1 0
    have b0 := h2 0
    have hx := ha.1
    have hy := hb.1
    rw [e]
    congr 1
    rcases hk k (List.mem_cons_self ..) with ⟨i, rfl⟩ | rfl
    · cases x <;> simp [valIs] at hx
      cases y <;> simp [valIs] at hy
      subst hx; subst hy
      simp [cI, valI] at i0
      rw [i0]
    · cases x <;> simp [valIs] at hx
      cases y <;> simp [valIs] at hy
      simp [cB, valB] at b0
      rw [b0]
  | [], _ :: _, [], _, hb, _, _, _ => False.elim hb
  | _ :: _, _, [], ha, _, _, _, _ => False.elim ha
  | [], _, _ :: _, ha, _, _, _, _ => False.elim ha
  | _ :: _, [], _ :: _, _, hb, _, _, _ => False.elim hb
theorem rowOK_set : ∀ {l : List Value} {ks : List Kd} {n : Nat} {v : Value} {k : Kd}, rowOK l ks → valIs (some v) k = true → rowOK (l.set n v) (ks.set n k)
  | [], [], _, _, _, _, _ => trivial
  | _ :: _, _ :: _, 0, _, _, h, hv => ⟨hv, h.2⟩
  | _ :: _, _ :: _, n + 1, _, _, h, hv => ⟨h.1, rowOK_set (n := n) h.2 hv⟩
  | [], _ :: _, _, _, _, h, _ => False.elim h
  | _ :: _, [], _, _, _, h, _ => False.elim h
theorem seg_at {a b : List Value} {i n : Nat} (h : segI a i n = segI b i n) : ∀ j, j < n → cI a (i + j) = cI b (i + j) := by
  intro j hj
  have := congrArg (fun l => l[j]?) h
  unfold segI at this
  simpa [List.getElem?_map, List.getElem?_range hj] using this
theorem rowOK_len : ∀ {l : List Value} {ks : List Kd}, rowOK l ks → l.length = ks.length
  | [], [], _ => rfl
  | _ :: _, _ :: _, h => by rw [List.length_cons, List.length_cons, rowOK_len h.2]
  | [], _ :: _, h => False.elim h
  | _ :: _, [], h => False.elim h
theorem rowOK_cI {l : List Value} {ks : List Kd} (h : rowOK l ks) {k : Nat} (hk : ks[k]? = some .bool) : cI l k = 0 := by
  obtain ⟨v, hv, hi⟩ := rowOK_get h hk
  unfold cI
  rw [hv]
  cases v <;> simp [valIs] at hi
  rfl
theorem rowOK_cB {l : List Value} {ks : List Kd} (h : rowOK l ks) {k : Nat} {i : IntKind} (hk : ks[k]? = some (.int i)) : cB l k = false := by
  obtain ⟨v, hv, hi⟩ := rowOK_get h hk
  unfold cB
  rw [hv]
  cases v <;> simp [valIs] at hi
  rfl
def hkb : List Kd := hkd.set 53 .bool
theorem hkb_kinds : ∀ k, k < 125 → k ≠ 35 → k ≠ 53 → ∃ i, hkb[k]? = some (.int i) := by
  have h : ((List.range 125).all fun k => k == 35 || k == 53 || (match hkb[k]? with | some (.int _) => true | _ => false)) = true := by kernel_rfl
  intro k hk h1 h2
  have := List.all_eq_true.1 h k (List.mem_range.2 hk)
  simp only [Bool.or_eq_true, beq_iff_eq] at this
  rcases this with (e | e) | e
  · exact absurd e h1
  · exact absurd e h2
  · split at e
    · rename_i i he; exact ⟨i, he⟩
    · cases e
theorem hkb_all : ∀ k ∈ hkb, (∃ i, k = .int i) ∨ k = .bool := by
  have h : (hkb.all fun k => match k with | .int _ => true | .bool => true | _ => false) = true := by kernel_rfl
  intro k hk
  have := List.all_eq_true.1 h k hk
  cases k <;> simp at this
  · exact Or.inl ⟨_, rfl⟩
  · exact Or.inr rfl
theorem prH_id {R : Hl} {row : List Value} {h : Hd} (hx : IsHd R row h) (hF : h.Form) : prH (hdB h) = h := by
  obtain ⟨⟨q0, q1, q34, q35, q36, q54, q55, q56, q57, q58, q59, q92⟩, ⟨g1, g2, g3, g4⟩, vT⟩ := lawQ hx hF
  have k35 : hkb[35]? = some .bool := by kernel_rfl
  have k53 : hkb[53]? = some .bool := by kernel_rfl
  have o1 : rowOK (prH (hdB h)).c hkb := by
    have := rowOK_set (n := 53) (v := .bool false) (k := .bool) (hdRow_ok (hdB h) (u := .slice none 0 0) rfl) rfl
    obtain ⟨L, B, hl, e⟩ := hd_split (hdB h)
    rw [e, List.set_append_right _ _ (by omega), hl] at this
    show rowOK (hdRow (hdB h) (.bool false)) hkb
    rw [e]; exact this
  have o2 : rowOK h.c hkb := by
    rw [hx.core]; exact rowOK_set hx.ok rfl
  have hc : (prH (hdB h)).c = h.c := by
    refine row_ext o1 o2 hkb_all (fun k => ?_) (fun k => ?_)
    · by_cases hk : k < 125
      · have s1 := seg_at g1
        have s2 := seg_at g2
        have s3 := seg_at g3
        have s4 := seg_at g4
        have : k = 0 ∨ k = 1 ∨ (2 ≤ k ∧ k < 34) ∨ k = 34 ∨ k = 35 ∨ k = 36 ∨ (37 ≤ k ∧ k < 53) ∨ k = 53 ∨ k = 54 ∨ k = 55 ∨ k = 56 ∨ k = 57 ∨ k = 58 ∨ k = 59 ∨ (60 ≤ k ∧ k < 92) ∨ k = 92 ∨ (93 ≤ k ∧ k < 125) := by omega
        rcases this with e | e | e | e | e | e | e | e | e | e | e | e | e | e | e | e | e
        · rw [e]; exact q0
        · rw [e]; exact q1
        · have := s1 (k - 2) (by omega); rwa [show 2 + (k - 2) = k by omega] at this
        · rw [e]; exact q34
        · rw [e, rowOK_cI o1 k35, rowOK_cI o2 k35]
        · rw [e]; exact q36
        · have := s2 (k - 37) (by omega); rwa [show 37 + (k - 37) = k by omega] at this
        · rw [e, rowOK_cI o1 k53, rowOK_cI o2 k53]
        · rw [e]; exact q54
        · rw [e]; exact q55
        · rw [e]; exact q56
        · rw [e]; exact q57
        · rw [e]; exact q58
        · rw [e]; exact q59
        · have := s3 (k - 60) (by omega); rwa [show 60 + (k - 60) = k by omega] at this
        · rw [e]; exact q92
        · have := s4 (k - 93) (by omega); rwa [show 93 + (k - 93) = k by omega] at this
      · have hl : hkb.length = 125 := by kernel_rfl
        have l1 := rowOK_len o1
        have l2 := rowOK_len o2
        unfold cI
        rw [List.getElem?_eq_none (by omega), List.getElem?_eq_none (by omega)]
    · by_cases hk : k < 125
      · by_cases h35 : k = 35
        · rw [h35]; exact q35
        · by_cases h53 : k = 53
          · rw [h53, hx.core]
            have hl : row.length = 125 := by rw [rowOK_len hx.ok]; kernel_rfl
            obtain ⟨L, B, hl', e⟩ := hd_split (hdB h)
            show cB (hdRow (hdB h) (.bool false)) 53 = _
            unfold cB
            rw [e, List.getElem?_append_right (by omega), hl', List.getElem?_set_self (by omega)]
            rfl
          · obtain ⟨i, hi⟩ := hkb_kinds k hk h35 h53
            rw [rowOK_cB o1 hi, rowOK_cB o2 hi]
      · have hl : hkb.length = 125 := by kernel_rfl
        have l1 := rowOK_len o1
        have l2 := rowOK_len o2
        unfold cB
        rw [List.getElem?_eq_none (by omega), List.getElem?_eq_none (by omega)]
  cases h with
  | mk c t =>
    have e1 : (prH (hdB ⟨c, t⟩)).c = c := hc
    have e2 : (prH (hdB ⟨c, t⟩)).t = t := vT
    generalize prH (hdB ⟨c, t⟩) = z at e1 e2
    cases z
    simp only at e1 e2
    rw [e1, e2]
/-- Formed headers of the same bytes are the same. -/
theorem hd_inj {R R' : Hl} {row row' : List Value} {h h' : Hd} (hx : IsHd R row h) (hF : h.Form) (hx' : IsHd R' row' h') (hF' : h'.Form) (e : hdB h = hdB h') : h = h' := by
  rw [← prH_id hx hF, ← prH_id hx' hF', e]
end Go.Proofs.Ytkdllpialpfopaa
