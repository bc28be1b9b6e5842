/- Layer 12: what is parsed of a formed header's bytes is that header. Plain laws. -/
import Derived.Test.YtkdllpialpfopaaHdG
set_option linter.unusedSimpArgs false
set_option linter.unusedVariables false
set_option linter.constructorNameAsVariable false
namespace Go.Proofs.Ytkdllpialpfopaa
open Go Go.Sx Go.Pk

section
variable {s : PS} {t : List Int}
theorem numS' {m : Int} {z : Nat} (hs : s = ⟨numB z ++ t, false⟩) (h1 : (z : Int) ≤ m) (h2 : z < 18446744073709551616) : pNum m s = ⟨t, false⟩ ∧ vNum m s = z := by
  subst hs; exact numBk h1 h2
theorem rawS' {n : Int} {l : List Int} (hs : s = ⟨l ++ t, false⟩) (h : (l.length : Int) = n) : pRaw n s = ⟨t, false⟩ ∧ vRaw n s = l := by
  subst hs; exact rawBk h
theorem flagS' {b : Bool} (hs : s = ⟨flagB b ++ t, false⟩) : pFlag s = ⟨t, false⟩ ∧ vFlag s = b := by
  subst hs; exact flagBk
theorem toksS' {T : List (List Int)} (hs : s = ⟨T.flatten ++ t, false⟩) (hT : ∀ x ∈ T, x.length = 16) : pToks T.length s = (T, ⟨t, false⟩) := by
  subst hs
  rw [toksBk T T.length (Nat.le_refl _) hT, List.take_length, List.drop_length, List.flatten_nil, List.nil_append]
end
theorem zer_seg {a b : List Value} {i n : Nat} (h : segI a i n = segI b i n) : zer (cI a) i n ↔ zer (cI b) i n := by
  refine zer_congr fun j hj => ?_
  have := congrArg (fun l => l[j]?) h
  unfold segI at this
  simpa [List.getElem?_map, List.getElem?_range hj] using this
theorem lawB {R : Hl} {row : List Value} {h : Hd} (hx : IsHd R row h) (hF : h.Form) : (p17 (hdB h)).bad = false ∧ (p17 (hdB h)).l = [] ∧ (prH (hdB h)).Form := by
  obtain ⟨⟨hw, hs, he, ht, hk, hkn, hp⟩, h8, hso, hpd, hct⟩ := id hF
  have u : ∀ {k : Nat}, hkd[k]? = some (.int .u64) → k ≠ 53 → 0 ≤ cI h.c k := fun {k} hk h53 => by
    rw [hx.I h53]; exact (hx.rng _ (List.mem_of_getElem? (row_u64 hx.ok hk))).1
  have u1 : 0 ≤ cI h.c 1 := u rfl (by decide)
  have u36 : 0 ≤ cI h.c 36 := u rfl (by decide)
  have u54 : 0 ≤ cI h.c 54 := u rfl (by decide)
  have u55 : 0 ≤ cI h.c 55 := u rfl (by decide)
  have u56 : 0 ≤ cI h.c 56 := u rfl (by decide)
  have u57 : 0 ≤ cI h.c 57 := u rfl (by decide)
  have u58 : 0 ≤ cI h.c 58 := u rfl (by decide)
  have u59 : 0 ≤ cI h.c 59 := u rfl (by decide)
  have hsz : 80 ≤ cI h.c 92 ∧ cI h.c 92 ≤ 2064 := isPad_in hpd
  have ht16 : ∀ t ∈ h.t, t.length = 16 := fun t ht => (hx.byte.2 t ht).1
  generalize hb : hdB h = b
  have key : b = numB (cI h.c 0).toNat ++ (numB (cI h.c 1).toNat ++ (segI h.c 2 32 ++ (numB (cI h.c 34).toNat ++ (flagB (cB h.c 35) ++ (numB (cI h.c 36).toNat ++ (segI h.c 37 16 ++ (numB h.t.length ++ (h.t.flatten ++ (numB (cI h.c 54).toNat ++ (numB (cI h.c 55).toNat ++ (numB (cI h.c 56).toNat ++ (numB (cI h.c 57).toNat ++ (numB (cI h.c 58).toNat ++ (numB (cI h.c 59).toNat ++ (segI h.c 60 32 ++ (numB (cI h.c 92).toNat ++ (segI h.c 93 32 ++ ([])))))))))))))))))) := by
    rw [← hb]
    unfold hdB coreB coreZ coreA
    rw [u64N_id (z := cI h.c 0) (by omega) (by omega), u64N_id (z := cI h.c 34) (by omega) (by omega), u64N_id (z := cI h.c 92) (by omega) (by omega)]
    simp only [List.append_assoc, List.append_nil]
  have s0 : p0 b = ⟨_, false⟩ := congrArg (fun l => PS.mk l false) key
  obtain ⟨s1, v1⟩ := numS' (m := 6) (z := (cI h.c 0).toNat) s0 (by omega) (by omega)
  have s1 : p1 b = ⟨_, false⟩ := s1
  obtain ⟨s2, v2⟩ := numS' (m := 1048576) (z := (cI h.c 1).toNat) s1 (by omega) (by omega)
  have s2 : p2 b = ⟨_, false⟩ := s2
  obtain ⟨s3, v3⟩ := rawS' (n := 32) (l := segI h.c 2 32) s2 (by rw [segI_len]; rfl)
  have s3 : p3 b = ⟨_, false⟩ := s3
  obtain ⟨s4, v4⟩ := numS' (m := 255) (z := (cI h.c 34).toNat) s3 (by omega) (by omega)
  have s4 : p4 b = ⟨_, false⟩ := s4
  obtain ⟨s5, v5⟩ := flagS' s4
  have s5 : p5 b = ⟨_, false⟩ := s5
  obtain ⟨s6, v6⟩ := numS' (m := 1099511627776) (z := (cI h.c 36).toNat) s5 (by omega) (by omega)
  have s6 : p6 b = ⟨_, false⟩ := s6
  obtain ⟨s7, v7⟩ := rawS' (n := 16) (l := segI h.c 37 16) s6 (by rw [segI_len]; rfl)
  have s7 : p7 b = ⟨_, false⟩ := s7
  obtain ⟨s8, v8⟩ := numS' (m := 8) (z := h.t.length) s7 (by omega) (by omega)
  have s8 : p8 b = ⟨_, false⟩ := s8
  have vN : hN b = h.t.length := by unfold hN; rw [v8]; exact Int.toNat_natCast _
  have sT := toksS' s8 ht16
  rw [← vN] at sT
  have s9 : (pToks (hN b) (p8 b)).2 = ⟨_, false⟩ := congrArg Prod.snd sT
  have vT : hT b = h.t := congrArg Prod.fst sT
  have s9 : k0 b = ⟨_, false⟩ := s9
  obtain ⟨s10, v10⟩ := numS' (m := 1048576) (z := (cI h.c 54).toNat) s9 (by omega) (by omega)
  have s10 : k1 b = ⟨_, false⟩ := s10
  obtain ⟨s11, v11⟩ := numS' (m := 1048576) (z := (cI h.c 55).toNat) s10 (by omega) (by omega)
  have s11 : k2 b = ⟨_, false⟩ := s11
  obtain ⟨s12, v12⟩ := numS' (m := 1048576) (z := (cI h.c 56).toNat) s11 (by omega) (by omega)
  have s12 : k3 b = ⟨_, false⟩ := s12
  obtain ⟨s13, v13⟩ := numS' (m := 1048576) (z := (cI h.c 57).toNat) s12 (by omega) (by omega)
  have s13 : k4 b = ⟨_, false⟩ := s13
  obtain ⟨s14, v14⟩ := numS' (m := 1048576) (z := (cI h.c 58).toNat) s13 (by omega) (by omega)
  have s14 : k5 b = ⟨_, false⟩ := s14
  obtain ⟨s15, v15⟩ := numS' (m := 1048576) (z := (cI h.c 59).toNat) s14 (by omega) (by omega)
  have s15 : k6 b = ⟨_, false⟩ := s15
  obtain ⟨s16, v16⟩ := rawS' (n := 32) (l := segI h.c 60 32) s15 (by rw [segI_len]; rfl)
  have s16 : p15 b = ⟨_, false⟩ := s16
  obtain ⟨s17, v17⟩ := numS' (m := 2064) (z := (cI h.c 92).toNat) s16 (by omega) (by omega)
  have s17 : p16 b = ⟨_, false⟩ := s17
  obtain ⟨s18, v18⟩ := rawS' (n := 32) (l := segI h.c 93 32) s17 (by rw [segI_len]; rfl)
  have s18 : p17 b = ⟨_, false⟩ := s18
  refine ⟨congrArg PS.bad s18, congrArg PS.l s18, ?_⟩
  have q0 : cI (prH b).c 0 = cI h.c 0 := (c_0 b).trans (v1.trans (by omega))
  have q1 : cI (prH b).c 1 = cI h.c 1 := (c_1 b).trans (v2.trans (by omega))
  have q34 : cI (prH b).c 34 = cI h.c 34 := (c_34 b).trans (v4.trans (by omega))
  have q36 : cI (prH b).c 36 = cI h.c 36 := (c_36 b).trans (v6.trans (by omega))
  have q54 : cI (prH b).c 54 = cI h.c 54 := (c_54 b).trans (v10.trans (by omega))
  have q55 : cI (prH b).c 55 = cI h.c 55 := (c_55 b).trans (v11.trans (by omega))
  have q56 : cI (prH b).c 56 = cI h.c 56 := (c_56 b).trans (v12.trans (by omega))
  have q57 : cI (prH b).c 57 = cI h.c 57 := (c_57 b).trans (v13.trans (by omega))
  have q58 : cI (prH b).c 58 = cI h.c 58 := (c_58 b).trans (v14.trans (by omega))
  have q59 : cI (prH b).c 59 = cI h.c 59 := (c_59 b).trans (v15.trans (by omega))
  have q92 : cI (prH b).c 92 = cI h.c 92 := (c_92 b).trans (v17.trans (by omega))
  have q35 : cB (prH b).c 35 = cB h.c 35 := (c_35 b).trans v5
  have qz1 : zer (cI (prH b).c) 2 32 ↔ zer (cI h.c) 2 32 := zer_seg ((c_2 b).trans (by rw [show vRaw 32 (p2 b) = _ from v3]; exact padN_id (segI_len _ _ _)))
  have qz2 : zer (cI (prH b).c) 37 16 ↔ zer (cI h.c) 37 16 := zer_seg ((c_37 b).trans (by rw [show vRaw 16 (p6 b) = _ from v7]; exact padN_id (segI_len _ _ _)))
  have qk : cI (prH b).c (54 + (cI h.c 0 - 1).toNat) = cI h.c (54 + (cI h.c 0 - 1).toNat) := by
    have : (cI h.c 0 - 1).toNat = 0 ∨ (cI h.c 0 - 1).toNat = 1 ∨ (cI h.c 0 - 1).toNat = 2 ∨ (cI h.c 0 - 1).toNat = 3 ∨ (cI h.c 0 - 1).toNat = 4 ∨ (cI h.c 0 - 1).toNat = 5 := by omega
    rcases this with e | e | e | e | e | e <;> rw [e]
    · exact q54
    · exact q55
    · exact q56
    · exact q57
    · exact q58
    · exact q59
  have qt : (prH b).t = h.t := vT
  unfold Hd.Form placedP
  rw [qt, q35, q0, q1, q34, q36, qk, q54, q55, q56, q57, q58, q59, q92, qz1, qz2]
  exact ⟨⟨hw, hs, he, ht, hk, hkn, hp⟩, h8, hso, hpd, hct⟩
end Go.Proofs.Ytkdllpialpfopaa
