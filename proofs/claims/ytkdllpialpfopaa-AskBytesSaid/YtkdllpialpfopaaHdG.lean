/- Layer 12: what is parsed of a header's bytes, step by step: plain laws. -/
import Derived.Test.YtkdllpialpfopaaHdF
set_option linter.unusedSimpArgs false
set_option linter.unusedVariables false
set_option linter.constructorNameAsVariable false
namespace Go.Proofs.Ytkdllpialpfopaa
open Go Go.Sx Go.Pk

/-- What is left to parse, and whether a part wasn't there. -/
structure PS where
  l : List Int
  bad : Bool
def pNum (m : Int) (s : PS) : PS := ⟨(inNum s.l s.bad m).2.1, (inNum s.l s.bad m).2.2⟩
def vNum (m : Int) (s : PS) : Int := (inNum s.l s.bad m).1
def pRaw (n : Int) (s : PS) : PS := ⟨(inRaw s.l s.bad n).2.1, (inRaw s.l s.bad n).2.2⟩
def vRaw (n : Int) (s : PS) : List Int := (inRaw s.l s.bad n).1
def pFlag (s : PS) : PS := ⟨(inFlag s.l s.bad).2.1, (inFlag s.l s.bad).2.2⟩
def vFlag (s : PS) : Bool := (inFlag s.l s.bad).1
def padN (n : Nat) (l : List Int) : List Int := (List.range n).map fun j => l.getD j 0
theorem padN_len (n : Nat) (l : List Int) : (padN n l).length = n := by unfold padN; simp
theorem padN_id {n : Nat} {l : List Int} (h : l.length = n) : padN n l = l := by
  apply List.ext_getElem?
  intro j
  unfold padN
  rw [List.getElem?_map]
  by_cases hj : j < n
  · rw [List.getElem?_range hj, Option.map_some, List.getD_eq_getElem?_getD, List.getElem?_eq_getElem (by omega)]; rfl
  · rw [List.getElem?_eq_none (by simp; omega), List.getElem?_eq_none (by omega)]; rfl
section
variable {s : PS}
theorem numA {m : Int} (hb : bytes256 s.l) (h : (pNum m s).bad = false) : s.bad = false ∧ s.l = numB (vNum m s).toNat ++ (pNum m s).l ∧ 0 ≤ vNum m s ∧ vNum m s ≤ m ∧ vNum m s < 18446744073709551616 := by
  unfold pNum vNum inNum at *
  split at h
  · cases h
  · rename_i hc
    rw [if_neg hc]
    have h1 : s.bad = false := by
      cases hs : s.bad
      · rfl
      · exact absurd (Or.inl hs) hc
    have h2 : (numR s.l).2 ≠ 0 := fun e => hc (Or.inr (Or.inl e))
    have h3 : ¬ m < ((numR s.l).1 : Int) := fun e => hc (Or.inr (Or.inr e))
    cases hn : numAt s.l with
    | none => unfold numR at h2; rw [hn] at h2; exact absurd rfl h2
    | some r =>
      obtain ⟨x, k⟩ := r
      obtain ⟨_, _, h6, h7⟩ := numAt_dec hb hn
      have e : numR s.l = (x, k) := by unfold numR; rw [hn]; rfl
      rw [e] at h3 ⊢
      refine ⟨h1, ?_, by show (0 : Int) ≤ (x : Int); omega, by show (x : Int) ≤ m; simp only at h3; omega, by show (x : Int) < _; omega⟩
      show s.l = numB ((x : Int)).toNat ++ s.l.drop k
      rw [Int.toNat_natCast, ← h6, List.take_append_drop]
theorem rawA {n : Int} (h : (pRaw n s).bad = false) : s.bad = false ∧ s.l = vRaw n s ++ (pRaw n s).l ∧ (vRaw n s).length = n.toNat := by
  unfold pRaw vRaw inRaw at *
  split at h
  · cases h
  · rename_i hc
    rw [if_neg hc]
    have h1 : s.bad = false := by
      cases hs : s.bad
      · rfl
      · exact absurd (Or.inl hs) hc
    have h2 : ¬ (s.l.length : Int) < n := fun e => hc (Or.inr (Or.inr e))
    exact ⟨h1, (List.take_append_drop _ _).symm, by show (s.l.take n.toNat).length = _; rw [List.length_take]; omega⟩
theorem flagA (h : (pFlag s).bad = false) (hb : bytes256 s.l) : s.bad = false ∧ s.l = flagB (vFlag s) ++ (pFlag s).l := by
  unfold pFlag vFlag inFlag at *
  split at h
  · cases h
  · rename_i hc
    rw [if_neg hc]
    have h1 : s.bad = false := by
      cases hs : s.bad
      · rfl
      · exact absurd (Or.inl hs) hc
    have h2 : s.l ≠ [] := fun e => hc (Or.inr (Or.inl e))
    have h3 : ¬ 1 < s.l.getD 0 0 := fun e => hc (Or.inr (Or.inr e))
    refine ⟨h1, ?_⟩
    cases hl : s.l with
    | nil => exact absurd hl h2
    | cons x t =>
      rw [hl] at h3
      have hx := hb x (by rw [hl]; exact List.mem_cons_self ..)
      have h3 : ¬ 1 < x := h3
      show x :: t = flagB (decide (x = 1)) ++ t
      unfold flagB
      have : x = 0 ∨ x = 1 := by omega
      rcases this with rfl | rfl <;> rfl
theorem numBk {m : Int} {z : Nat} {t : List Int} (h1 : (z : Int) ≤ m) (h2 : z < 18446744073709551616) : pNum m ⟨numB z ++ t, false⟩ = ⟨t, false⟩ ∧ vNum m ⟨numB z ++ t, false⟩ = z := by
  have e : numR (numB z ++ t) = (z, (numB z).length) := by unfold numR; rw [numAt_enc h2]; rfl
  have hp := numB_pos z
  have hc : ¬ ((false : Bool) = true ∨ (numR (numB z ++ t)).2 = 0 ∨ m < ((numR (numB z ++ t)).1 : Int)) := by
    rw [e]
    rintro (x | x | x)
    · cases x
    · simp only at x; omega
    · simp only at x; omega
  unfold pNum vNum inNum
  rw [if_neg hc, e]
  refine ⟨?_, rfl⟩
  show PS.mk ((numB z ++ t).drop (numB z).length) false = _
  rw [List.drop_left]
theorem rawBk {n : Int} {l t : List Int} (h : (l.length : Int) = n) : pRaw n ⟨l ++ t, false⟩ = ⟨t, false⟩ ∧ vRaw n ⟨l ++ t, false⟩ = l := by
  have hc : ¬ ((false : Bool) = true ∨ n < 0 ∨ ((l ++ t).length : Int) < n) := by
    rw [List.length_append]
    rintro (x | x | x)
    · cases x
    · omega
    · omega
  have hn : n.toNat = l.length := by omega
  unfold pRaw vRaw inRaw
  rw [if_neg hc, hn]
  refine ⟨?_, ?_⟩
  · show PS.mk ((l ++ t).drop l.length) false = _
    rw [List.drop_left]
  · show (l ++ t).take l.length = _
    rw [List.take_left]
theorem flagBk {b : Bool} {t : List Int} : pFlag ⟨flagB b ++ t, false⟩ = ⟨t, false⟩ ∧ vFlag ⟨flagB b ++ t, false⟩ = b := by
  cases b
  · exact ⟨rfl, rfl⟩
  · exact ⟨rfl, rfl⟩
theorem num256 {m : Int} (hb : bytes256 s.l) : bytes256 (pNum m s).l := by
  unfold pNum inNum
  split
  · exact hb
  · exact bytes_drop hb _
theorem raw256 {n : Int} (hb : bytes256 s.l) : bytes256 (pRaw n s).l := by
  unfold pRaw inRaw
  split
  · exact hb
  · exact bytes_drop hb _
theorem flag256 (hb : bytes256 s.l) : bytes256 (pFlag s).l := by
  unfold pFlag inFlag
  split
  · exact hb
  · exact bytes_drop hb _
/-- A number that is taken is in its bounds, whatever stands there. -/
theorem vNum_in {m : Int} (hm : 0 ≤ m) : 0 ≤ vNum m s ∧ vNum m s ≤ m := by
  unfold vNum inNum
  split
  · exact ⟨Int.le_refl _, hm⟩
  · rename_i hc
    have h3 : ¬ m < ((numR s.l).1 : Int) := fun e => hc (Or.inr (Or.inr e))
    exact ⟨by show (0 : Int) ≤ ((numR s.l).1 : Int); omega, by show ((numR s.l).1 : Int) ≤ m; omega⟩
theorem vRaw256 {n : Int} (hb : bytes256 s.l) : bytes256 (vRaw n s) := by
  unfold vRaw inRaw
  split
  · exact fun b h => by cases h
  · exact fun b h => hb b (List.mem_of_mem_take h)
theorem pad256 {n : Nat} {l : List Int} (h : bytes256 l) : bytes256 (padN n l) := by
  intro b hb
  unfold padN at hb
  obtain ⟨j, _, rfl⟩ := List.mem_map.1 hb
  rw [List.getD_eq_getElem?_getD]
  cases hj : l[j]? with
  | none => exact ⟨Int.le_refl _, by decide⟩
  | some z => exact h z (List.mem_of_getElem? hj)
end
/-- Tokens, one after another. -/
def pToks : Nat → PS → List (List Int) × PS
  | 0, s => ([], s)
  | k + 1, s => ((pToks k s).1 ++ [padN 16 (vRaw 16 (pToks k s).2)], pRaw 16 (pToks k s).2)
theorem toksA : ∀ (k : Nat) (s : PS), (pToks k s).2.bad = false → s.bad = false ∧ s.l = (pToks k s).1.flatten ++ (pToks k s).2.l
  | 0, s, h => ⟨h, rfl⟩
  | k + 1, s, h => by
    obtain ⟨h1, h2, h3⟩ := rawA (s := (pToks k s).2) h
    obtain ⟨h4, h5⟩ := toksA k s h1
    refine ⟨h4, ?_⟩
    show s.l = ((pToks k s).1 ++ [padN 16 (vRaw 16 (pToks k s).2)]).flatten ++ (pRaw 16 (pToks k s).2).l
    rw [padN_id (n := 16) h3, List.flatten_append, List.flatten_cons, List.flatten_nil, List.append_nil, List.append_assoc, ← h2]
    exact h5
theorem toksBk : ∀ (T : List (List Int)) (k : Nat), k ≤ T.length → (∀ t ∈ T, t.length = 16) → ∀ t, pToks k ⟨T.flatten ++ t, false⟩ = (T.take k, ⟨(T.drop k).flatten ++ t, false⟩)
  | T, 0, _, _, t => rfl
  | T, k + 1, hk, hT, t => by
    have ih := toksBk T k (by omega) hT t
    have hx := List.getElem?_eq_getElem (show k < T.length by omega)
    have hl := hT _ (List.mem_of_getElem? hx)
    have e : (T.drop k).flatten ++ t = T[k] ++ ((T.drop (k + 1)).flatten ++ t) := by
      rw [List.drop_eq_getElem_cons (by omega), List.flatten_cons, List.append_assoc]
    obtain ⟨r1, r2⟩ := rawBk (n := 16) (l := T[k]) (t := (T.drop (k + 1)).flatten ++ t) (by omega)
    show ((pToks k _).1 ++ [padN 16 (vRaw 16 (pToks k _).2)], pRaw 16 (pToks k _).2) = _
    rw [ih, e, r1, r2, padN_id hl, List.take_add_one, hx]
    rfl
theorem toks_len : ∀ (k : Nat) (s : PS), (pToks k s).1.length = k
  | 0, _ => rfl
  | k + 1, s => by
    show ((pToks k s).1 ++ [_]).length = _
    rw [List.length_append, toks_len k s]; rfl
theorem toks256 : ∀ (k : Nat) (s : PS), bytes256 s.l → (∀ t ∈ (pToks k s).1, t.length = 16 ∧ bytes256 t) ∧ bytes256 (pToks k s).2.l
  | 0, s, h => ⟨fun t ht => (by cases ht), h⟩
  | k + 1, s, h => by
    obtain ⟨h1, h2⟩ := toks256 k s h
    refine ⟨fun t ht => ?_, raw256 h2⟩
    rcases List.mem_append.1 ht with ht | ht
    · exact h1 t ht
    · rw [List.mem_singleton] at ht
      subst ht
      exact ⟨padN_len _ _, pad256 (vRaw256 h2)⟩
/-! ### A header's parts -/
def p0 (b : List Int) : PS := ⟨b, false⟩
def p1 (b : List Int) : PS := pNum 6 (p0 b)
def p2 (b : List Int) : PS := pNum 1048576 (p1 b)
def p3 (b : List Int) : PS := pRaw 32 (p2 b)
def p4 (b : List Int) : PS := pNum 255 (p3 b)
def p5 (b : List Int) : PS := pFlag (p4 b)
def p6 (b : List Int) : PS := pNum 1099511627776 (p5 b)
def p7 (b : List Int) : PS := pRaw 16 (p6 b)
def p8 (b : List Int) : PS := pNum 8 (p7 b)
def hN (b : List Int) : Nat := (vNum 8 (p7 b)).toNat
def hT (b : List Int) : List (List Int) := (pToks (hN b) (p8 b)).1
def k0 (b : List Int) : PS := (pToks (hN b) (p8 b)).2
def k1 (b : List Int) : PS := pNum 1048576 (k0 b)
def k2 (b : List Int) : PS := pNum 1048576 (k1 b)
def k3 (b : List Int) : PS := pNum 1048576 (k2 b)
def k4 (b : List Int) : PS := pNum 1048576 (k3 b)
def k5 (b : List Int) : PS := pNum 1048576 (k4 b)
def k6 (b : List Int) : PS := pNum 1048576 (k5 b)
def p15 (b : List Int) : PS := pRaw 32 (k6 b)
def p16 (b : List Int) : PS := pNum 2064 (p15 b)
def p17 (b : List Int) : PS := pRaw 32 (p16 b)
def hdRow (b : List Int) (u : Value) : List Value :=
  [.int .i64 (vNum 6 (p0 b)), .int .u64 (vNum 1048576 (p1 b))] ++ bys (padN 32 (vRaw 32 (p2 b))) ++ [.int .i64 (vNum 255 (p3 b)), .bool (vFlag (p4 b)), .int .u64 (vNum 1099511627776 (p5 b))] ++ bys (padN 16 (vRaw 16 (p6 b))) ++ [u] ++
  [.int .u64 (vNum 1048576 (k0 b)), .int .u64 (vNum 1048576 (k1 b)), .int .u64 (vNum 1048576 (k2 b)), .int .u64 (vNum 1048576 (k3 b)), .int .u64 (vNum 1048576 (k4 b)), .int .u64 (vNum 1048576 (k5 b))] ++ bys (padN 32 (vRaw 32 (k6 b))) ++ [.int .i64 (vNum 2064 (p15 b))] ++ bys (padN 32 (vRaw 32 (p16 b)))
theorem segI_mid {A C : List Value} {B : List Int} {a n : Nat} (ha : A.length = a) (hn : B.length = n) : segI (A ++ bys B ++ C) a n = B := by
  subst ha hn
  apply List.ext_getElem?
  intro j
  unfold segI
  rw [List.getElem?_map]
  by_cases hj : j < B.length
  · rw [List.getElem?_range hj, Option.map_some, List.getElem?_eq_getElem hj]
    unfold cI bys
    rw [List.getElem?_append_left (by rw [List.length_append, List.length_map]; omega), List.getElem?_append_right (by omega), show A.length + j - A.length = j by omega, List.getElem?_map, List.getElem?_eq_getElem hj]
    rfl
  · rw [List.getElem?_eq_none (by simp; omega), List.getElem?_eq_none (by omega)]; rfl
def prH (b : List Int) : Hd := ⟨hdRow b (.bool false), hT b⟩
section
variable (b : List Int)
theorem c_0 : cI (prH b).c 0 = vNum 6 (p0 b) := rfl
theorem c_1 : cI (prH b).c 1 = vNum 1048576 (p1 b) := rfl
theorem c_2 : segI (prH b).c 2 32 = padN 32 (vRaw 32 (p2 b)) := by
  have e : (prH b).c = ([Value.int .i64 (vNum 6 (p0 b)), .int .u64 (vNum 1048576 (p1 b))]) ++ bys (padN 32 (vRaw 32 (p2 b))) ++ ([Value.int .i64 (vNum 255 (p3 b)), .bool (vFlag (p4 b)), .int .u64 (vNum 1099511627776 (p5 b))] ++ (bys (padN 16 (vRaw 16 (p6 b))) ++ ([Value.bool false] ++ ([Value.int .u64 (vNum 1048576 (k0 b)), .int .u64 (vNum 1048576 (k1 b)), .int .u64 (vNum 1048576 (k2 b)), .int .u64 (vNum 1048576 (k3 b)), .int .u64 (vNum 1048576 (k4 b)), .int .u64 (vNum 1048576 (k5 b))] ++ (bys (padN 32 (vRaw 32 (k6 b))) ++ ([Value.int .i64 (vNum 2064 (p15 b))] ++ (bys (padN 32 (vRaw 32 (p16 b)))))))))) := by
    show hdRow b (.bool false) = _
    unfold hdRow
    simp only [List.append_assoc, List.append_nil]
  rw [e]
  exact segI_mid (by simp [padN_len, bys]) (padN_len _ _)
theorem c_34 : cI (prH b).c 34 = vNum 255 (p3 b) := rfl
theorem c_35 : cB (prH b).c 35 = vFlag (p4 b) := rfl
theorem c_36 : cI (prH b).c 36 = vNum 1099511627776 (p5 b) := rfl
theorem c_37 : segI (prH b).c 37 16 = padN 16 (vRaw 16 (p6 b)) := by
  have e : (prH b).c = ([Value.int .i64 (vNum 6 (p0 b)), .int .u64 (vNum 1048576 (p1 b))] ++ bys (padN 32 (vRaw 32 (p2 b))) ++ [Value.int .i64 (vNum 255 (p3 b)), .bool (vFlag (p4 b)), .int .u64 (vNum 1099511627776 (p5 b))]) ++ bys (padN 16 (vRaw 16 (p6 b))) ++ ([Value.bool false] ++ ([Value.int .u64 (vNum 1048576 (k0 b)), .int .u64 (vNum 1048576 (k1 b)), .int .u64 (vNum 1048576 (k2 b)), .int .u64 (vNum 1048576 (k3 b)), .int .u64 (vNum 1048576 (k4 b)), .int .u64 (vNum 1048576 (k5 b))] ++ (bys (padN 32 (vRaw 32 (k6 b))) ++ ([Value.int .i64 (vNum 2064 (p15 b))] ++ (bys (padN 32 (vRaw 32 (p16 b)))))))) := by
    show hdRow b (.bool false) = _
    unfold hdRow
    simp only [List.append_assoc, List.append_nil]
  rw [e]
  exact segI_mid (by simp [padN_len, bys]) (padN_len _ _)
theorem c_54 : cI (prH b).c 54 = vNum 1048576 (k0 b) := rfl
theorem c_55 : cI (prH b).c 55 = vNum 1048576 (k1 b) := rfl
theorem c_56 : cI (prH b).c 56 = vNum 1048576 (k2 b) := rfl
theorem c_57 : cI (prH b).c 57 = vNum 1048576 (k3 b) := rfl
theorem c_58 : cI (prH b).c 58 = vNum 1048576 (k4 b) := rfl
theorem c_59 : cI (prH b).c 59 = vNum 1048576 (k5 b) := rfl
theorem c_60 : segI (prH b).c 60 32 = padN 32 (vRaw 32 (k6 b)) := by
  have e : (prH b).c = ([Value.int .i64 (vNum 6 (p0 b)), .int .u64 (vNum 1048576 (p1 b))] ++ bys (padN 32 (vRaw 32 (p2 b))) ++ [Value.int .i64 (vNum 255 (p3 b)), .bool (vFlag (p4 b)), .int .u64 (vNum 1099511627776 (p5 b))] ++ bys (padN 16 (vRaw 16 (p6 b))) ++ [Value.bool false] ++ [Value.int .u64 (vNum 1048576 (k0 b)), .int .u64 (vNum 1048576 (k1 b)), .int .u64 (vNum 1048576 (k2 b)), .int .u64 (vNum 1048576 (k3 b)), .int .u64 (vNum 1048576 (k4 b)), .int .u64 (vNum 1048576 (k5 b))]) ++ bys (padN 32 (vRaw 32 (k6 b))) ++ ([Value.int .i64 (vNum 2064 (p15 b))] ++ (bys (padN 32 (vRaw 32 (p16 b))))) := by
    show hdRow b (.bool false) = _
    unfold hdRow
    simp only [List.append_assoc, List.append_nil]
  rw [e]
  exact segI_mid (by simp [padN_len, bys]) (padN_len _ _)
theorem c_92 : cI (prH b).c 92 = vNum 2064 (p15 b) := rfl
theorem c_93 : segI (prH b).c 93 32 = padN 32 (vRaw 32 (p16 b)) := by
  have e : (prH b).c = ([Value.int .i64 (vNum 6 (p0 b)), .int .u64 (vNum 1048576 (p1 b))] ++ bys (padN 32 (vRaw 32 (p2 b))) ++ [Value.int .i64 (vNum 255 (p3 b)), .bool (vFlag (p4 b)), .int .u64 (vNum 1099511627776 (p5 b))] ++ bys (padN 16 (vRaw 16 (p6 b))) ++ [Value.bool false] ++ [Value.int .u64 (vNum 1048576 (k0 b)), .int .u64 (vNum 1048576 (k1 b)), .int .u64 (vNum 1048576 (k2 b)), .int .u64 (vNum 1048576 (k3 b)), .int .u64 (vNum 1048576 (k4 b)), .int .u64 (vNum 1048576 (k5 b))] ++ bys (padN 32 (vRaw 32 (k6 b))) ++ [Value.int .i64 (vNum 2064 (p15 b))]) ++ bys (padN 32 (vRaw 32 (p16 b))) ++ ([]) := by
    show hdRow b (.bool false) = _
    unfold hdRow
    simp only [List.append_assoc, List.append_nil]
  rw [e]
  exact segI_mid (by simp [padN_len, bys]) (padN_len _ _)
end
theorem u64N_id {z : Int} (h0 : 0 ≤ z) (h1 : z < 18446744073709551616) : u64N z = z.toNat := by unfold u64N; rw [wu64 h0 h1]
/-- What is parsed whole is what was there. -/
theorem lawA {b : List Int} (hb : bytes256 b) (h : (p17 b).bad = false) (hl : (p17 b).l = []) : hdB (prH b) = b := by
  have b0 : bytes256 (p0 b).l := hb
  have b1 : bytes256 (p1 b).l := num256 b0
  have b2 : bytes256 (p2 b).l := num256 b1
  have b3 : bytes256 (p3 b).l := raw256 b2
  have b4 : bytes256 (p4 b).l := num256 b3
  have b5 : bytes256 (p5 b).l := flag256 b4
  have b6 : bytes256 (p6 b).l := num256 b5
  have b7 : bytes256 (p7 b).l := raw256 b6
  have b8 : bytes256 (p8 b).l := num256 b7
  have d0 : bytes256 (k0 b).l := (toks256 _ _ b8).2
  have d1 : bytes256 (k1 b).l := num256 d0
  have d2 : bytes256 (k2 b).l := num256 d1
  have d3 : bytes256 (k3 b).l := num256 d2
  have d4 : bytes256 (k4 b).l := num256 d3
  have d5 : bytes256 (k5 b).l := num256 d4
  have d6 : bytes256 (k6 b).l := num256 d5
  have b15 : bytes256 (p15 b).l := raw256 d6
  obtain ⟨h16, e17, n17⟩ := rawA (s := p16 b) (n := 32) h
  obtain ⟨h15, e16, x16, y16, _⟩ := numA (s := p15 b) (m := 2064) b15 h16
  obtain ⟨g6, e15, n15⟩ := rawA (s := k6 b) (n := 32) h15
  obtain ⟨g5, f6, _⟩ := numA (s := k5 b) (m := 1048576) d5 g6
  obtain ⟨g4, f5, _⟩ := numA (s := k4 b) (m := 1048576) d4 g5
  obtain ⟨g3, f4, _⟩ := numA (s := k3 b) (m := 1048576) d3 g4
  obtain ⟨g2, f3, _⟩ := numA (s := k2 b) (m := 1048576) d2 g3
  obtain ⟨g1, f2, _⟩ := numA (s := k1 b) (m := 1048576) d1 g2
  obtain ⟨g0, f1, _⟩ := numA (s := k0 b) (m := 1048576) d0 g1
  obtain ⟨h8, f0⟩ := toksA (hN b) (p8 b) g0
  obtain ⟨h7, e8, x8, y8, _⟩ := numA (s := p7 b) (m := 8) b7 h8
  obtain ⟨h6, e7, n7⟩ := rawA (s := p6 b) (n := 16) h7
  obtain ⟨h5, e6, _⟩ := numA (s := p5 b) (m := 1099511627776) b5 h6
  obtain ⟨h4, e5⟩ := flagA (s := p4 b) h5 b4
  obtain ⟨h3, e4, x4, y4, _⟩ := numA (s := p3 b) (m := 255) b3 h4
  obtain ⟨h2, e3, n3⟩ := rawA (s := p2 b) (n := 32) h3
  obtain ⟨h1, e2, _⟩ := numA (s := p1 b) (m := 1048576) b1 h2
  obtain ⟨_, e1, x1, y1, _⟩ := numA (s := p0 b) (m := 6) b0 h1
  have e17 : (p16 b).l = vRaw 32 (p16 b) := by rw [e17]; show _ ++ (p17 b).l = _; rw [hl, List.append_nil]
  have e1 : b = _ ++ (p1 b).l := e1
  have e2 : (p1 b).l = _ ++ (p2 b).l := e2
  have e3 : (p2 b).l = _ ++ (p3 b).l := e3
  have e4 : (p3 b).l = _ ++ (p4 b).l := e4
  have e5 : (p4 b).l = _ ++ (p5 b).l := e5
  have e6 : (p5 b).l = _ ++ (p6 b).l := e6
  have e7 : (p6 b).l = _ ++ (p7 b).l := e7
  have e8 : (p7 b).l = numB (hN b) ++ (p8 b).l := e8
  have f0 : (p8 b).l = (hT b).flatten ++ (k0 b).l := f0
  have f1 : (k0 b).l = _ ++ (k1 b).l := f1
  have f2 : (k1 b).l = _ ++ (k2 b).l := f2
  have f3 : (k2 b).l = _ ++ (k3 b).l := f3
  have f4 : (k3 b).l = _ ++ (k4 b).l := f4
  have f5 : (k4 b).l = _ ++ (k5 b).l := f5
  have f6 : (k5 b).l = _ ++ (k6 b).l := f6
  have e15 : (k6 b).l = _ ++ (p15 b).l := e15
  have e16 : (p15 b).l = _ ++ (p16 b).l := e16
  have hlen : (hT b).length = hN b := toks_len _ _
  have key : hdB (prH b) = numB (vNum 6 (p0 b)).toNat ++ (numB (vNum 1048576 (p1 b)).toNat ++ (vRaw 32 (p2 b) ++ (numB (vNum 255 (p3 b)).toNat ++ (flagB (vFlag (p4 b)) ++ (numB (vNum 1099511627776 (p5 b)).toNat ++ (vRaw 16 (p6 b) ++ (numB (hN b) ++ ((hT b).flatten ++ (numB (vNum 1048576 (k0 b)).toNat ++ (numB (vNum 1048576 (k1 b)).toNat ++ (numB (vNum 1048576 (k2 b)).toNat ++ (numB (vNum 1048576 (k3 b)).toNat ++ (numB (vNum 1048576 (k4 b)).toNat ++ (numB (vNum 1048576 (k5 b)).toNat ++ (vRaw 32 (k6 b) ++ (numB (vNum 2064 (p15 b)).toNat ++ vRaw 32 (p16 b))))))))))))))))) := by
    unfold hdB coreB coreZ coreA
    show _ ++ numB (hT b).length ++ (hT b).flatten ++ _ ++ _ ++ _ ++ _ ++ _ ++ _ ++ _ ++ _ ++ _ = _
    rw [hlen, c_0, c_1, c_2, c_34, c_35, c_36, c_37, c_54, c_55, c_56, c_57, c_58, c_59, c_60, c_92, c_93, u64N_id x1 (by omega), u64N_id x4 (by omega), u64N_id x16 (by omega), padN_id (n := 32) n3, padN_id (n := 16) n7, padN_id (n := 32) n15, padN_id (n := 32) n17]
    simp only [List.append_assoc]
  rw [key, ← e17, ← e16, ← e15, ← f6, ← f5, ← f4, ← f3, ← f2, ← f1, ← f0, ← e8, ← e7, ← e6, ← e5, ← e4, ← e3, ← e2, ← e1]
end Go.Proofs.Ytkdllpialpfopaa
