/- Layer 12: what is parsed of a header's bytes, step by step: plain laws. -/
import Derived.Test.YtomdimlnggpgbaaDoorRd
set_option linter.unusedSimpArgs false
set_option linter.unusedVariables false
set_option linter.constructorNameAsVariable false
namespace Go.Proofs.YtomdimlnggpgbaaDoor
open Go Go.Sx Go.Pk
structure PS where
  l : List Int
  bad : Bool
def pNum (m : Int) (s : PS) : PS := ⟨(inNum s.l s.bad m).2.1, (inNum s.l s.bad m).2.2⟩
def vNum (m : Int) (s : PS) : Int := (inNum s.l s.bad m).1
def pRaw (n : Int) (s : PS) : PS := ⟨(inRaw s.l s.bad n).2.1, (inRaw s.l s.bad n).2.2⟩
def vRaw (n : Int) (s : PS) : List Int := (inRaw s.l s.bad n).1
def pFlag (s : PS) : PS := ⟨(inFlag s.l s.bad).2.1, (inFlag s.l s.bad).2.2⟩
def vFlag (s : PS) : Bool := (inFlag s.l s.bad).1
def padN (n : Nat) (l : List Int) : List Int := (List.range n).map fun j => l.getD j 0
theorem padN_len (n : Nat) (l : List Int) : (padN n l).length = n := by unfold padN; simp
theorem padN_id {n : Nat} {l : List Int} (h : l.length = n) : padN n l = l := by
  apply List.ext_getElem?
  intro j
  unfold padN
  rw [List.getElem?_map]
  by_cases hj : j < n
  · rw [List.getElem?_range hj, Option.map_some, List.getD_eq_getElem?_getD, List.getElem?_eq_getElem (by omega)]; rfl
  · rw [List.getElem?_eq_none (by simp; omega), List.getElem?_eq_none (by omega)]; rfl
section
variable {s : PS}
theorem numA {m : Int} (hb : bytes256 s.l) (h : (pNum m s).bad = false) : s.bad = false ∧ s.l = numB (vNum m s).toNat ++ (pNum m s).l ∧ 0 ≤ vNum m s ∧ vNum m s ≤ m ∧ vNum m s < 18446744073709551616 := by
  unfold pNum vNum inNum at *
  split at h
  · cases h
  · rename_i hc
    rw [if_neg hc]
    have h1 : s.bad = false := by
      cases hs : s.bad
      · rfl
      · exact absurd (Or.inl hs) hc
    have h2 : (numR s.l).2 ≠ 0 := fun e => hc (Or.inr (Or.inl e))
    have h3 : ¬ m < ((numR s.l).1 : Int) := fun e => hc (Or.inr (Or.inr e))
    cases hn : numAt s.l with
    | none => unfold numR at h2; rw [hn] at h2; exact absurd rfl h2
    | some r =>
      obtain ⟨x, k⟩ := r
      obtain ⟨_, _, h6, h7⟩ := numAt_dec hb hn
      have e : numR s.l = (x, k) := by unfold numR; rw [hn]; rfl
      rw [e] at h3 ⊢
      refine ⟨h1, ?_, by show (0 : Int) ≤ (x : Int); omega, by show (x : Int) ≤ m; simp only at h3; omega, by show (x : Int) < _; omega⟩
      show s.l = numB ((x : Int)).toNat ++ s.l.drop k
      rw [Int.toNat_natCast, ← h6, List.take_append_drop]
theorem rawA {n : Int} (h : (pRaw n s).bad = false) : s.bad = false ∧ s.l = vRaw n s ++ (pRaw n s).l ∧ (vRaw n s).length = n.toNat := by
  unfold pRaw vRaw inRaw at *
  split at h
  · cases h
  · rename_i hc
    rw [if_neg hc]
    have h1 : s.bad = false := by
      cases hs : s.bad
      · rfl
      · exact absurd (Or.inl hs) hc
    have h2 : ¬ (s.l.length : Int) < n := fun e => hc (Or.inr (Or.inr e))
    exact ⟨h1, (List.take_append_drop _ _).symm, by show (s.l.take n.toNat).length = _; rw [List.length_take]; omega⟩
theorem flagA (h : (pFlag s).bad = false) (hb : bytes256 s.l) : s.bad = false ∧ s.l = flagB (vFlag s) ++ (pFlag s).l := by
  unfold pFlag vFlag inFlag at *
  split at h
  · cases h
  · rename_i hc
    rw [if_neg hc]
    have h1 : s.bad = false := by
      cases hs : s.bad
      · rfl
      · exact absurd (Or.inl hs) hc
    have h2 : s.l ≠ [] := fun e => hc (Or.inr (Or.inl e))
    have h3 : ¬ 1 < s.l.getD 0 0 := fun e => hc (Or.inr (Or.inr e))
    refine ⟨h1, ?_⟩
    cases hl : s.l with
    | nil => exact absurd hl h2
    | cons x t =>
      rw [hl] at h3
      have hx := hb x (by rw [hl]; exact List.mem_cons_self ..)
      have h3 : ¬ 1 < x := h3
      show x :: t = flagB (decide (x = 1)) ++ t
      unfold flagB
      have : x = 0 ∨ x = 1 := by omega
      rcases this with rfl | rfl <;> rfl
theorem numBk {m : Int} {z : Nat} {t : List Int} (h1 : (z : Int) ≤ m) (h2 : z < 18446744073709551616) : pNum m ⟨numB z ++ t, false⟩ = ⟨t, false⟩ ∧ vNum m ⟨numB z ++ t, false⟩ = z := by
  have e : numR (numB z ++ t) = (z, (numB z).length) := by unfold numR; rw [numAt_enc h2]; rfl
  have hp := numB_pos z
  have hc : ¬ ((false : Bool) = true ∨ (numR (numB z ++ t)).2 = 0 ∨ m < ((numR (numB z ++ t)).1 : Int)) := by
    rw [e]
    rintro (x | x | x)
    · cases x
    · simp only at x; omega
    · simp only at x; omega
  unfold pNum vNum inNum
  rw [if_neg hc, e]
  refine ⟨?_, rfl⟩
  show PS.mk ((numB z ++ t).drop (numB z).length) false = _
  rw [List.drop_left]
theorem rawBk {n : Int} {l t : List Int} (h : (l.length : Int) = n) : pRaw n ⟨l ++ t, false⟩ = ⟨t, false⟩ ∧ vRaw n ⟨l ++ t, false⟩ = l := by
  have hc : ¬ ((false : Bool) = true ∨ n < 0 ∨ ((l ++ t).length : Int) < n) := by
    rw [List.length_append]
    rintro (x | x | x)
    · cases x
    · omega
    · omega
  have hn : n.toNat = l.length := by omega
  unfold pRaw vRaw inRaw
  rw [if_neg hc, hn]
  refine ⟨?_, ?_⟩
  · show PS.mk ((l ++ t).drop l.length) false = _
    rw [List.drop_left]
  · show (l ++ t).take l.length = _
    rw [List.take_left]
theorem flagBk {b : Bool} {t : List Int} : pFlag ⟨flagB b ++ t, false⟩ = ⟨t, false⟩ ∧ vFlag ⟨flagB b ++ t, false⟩ = b := by
  cases b
  · exact ⟨rfl, rfl⟩
  · exact ⟨rfl, rfl⟩
theorem num256 {m : Int} (hb : bytes256 s.l) : bytes256 (pNum m s).l := by
  unfold pNum inNum
  split
  · exact hb
  · exact bytes_drop hb _
theorem raw256 {n : Int} (hb : bytes256 s.l) : bytes256 (pRaw n s).l := by
  unfold pRaw inRaw
  split
  · exact hb
  · exact bytes_drop hb _
theorem flag256 (hb : bytes256 s.l) : bytes256 (pFlag s).l := by
  unfold pFlag inFlag
  split
  · exact hb
  · exact bytes_drop hb _
theorem vNum_in {m : Int} (hm : 0 ≤ m) : 0 ≤ vNum m s ∧ vNum m s ≤ m := by
  unfold vNum inNum
  split
  · exact ⟨Int.le_refl _, hm⟩
  · rename_i hc
    have h3 : ¬ m < ((numR s.l).1 : Int) := fun e => hc (Or.inr (Or.inr e))
    exact ⟨by show (0 : Int) ≤ ((numR s.l).1 : Int); omega, by show ((numR s.l).1 : Int) ≤ m; omega⟩
theorem vRaw256 {n : Int} (hb : bytes256 s.l) : bytes256 (vRaw n s) := by
  unfold vRaw inRaw
  split
  · exact fun b h => by cases h
  · exact fun b h => hb b (List.mem_of_mem_take h)
theorem pad256 {n : Nat} {l : List Int} (h : bytes256 l) : bytes256 (padN n l) := by
  intro b hb
  unfold padN at hb
  obtain ⟨j, _, rfl⟩ := List.mem_map.1 hb
  rw [List.getD_eq_getElem?_getD]
  cases hj : l[j]? with
  | none => exact ⟨Int.le_refl _, by decide⟩
  | some z => exact h z (List.mem_of_getElem? hj)
end
def pToks : Nat → PS → List (List Int) × PS
  | 0, s => ([], s)
  | k + 1, s => ((pToks k s).1 ++ [padN 16 (vRaw 16 (pToks k s).2)], pRaw 16 (pToks k s).2)
theorem toksA : ∀ (k : Nat) (s : PS), (pToks k s).2.bad = false → s.bad = false ∧ s.l = (pToks k s).1.flatten ++ (pToks k s).2.l
  | 0, s, h => ⟨h, rfl⟩
  | k + 1, s, h => by
    obtain ⟨h1, h2, h3⟩ := rawA (s := (pToks k s).2) h
    obtain ⟨h4, h5⟩ := toksA k s h1
    refine ⟨h4, ?_⟩
    show s.l = ((pToks k s).1 ++ [padN 16 (vRaw 16 (pToks k s).2)]).flatten ++ (pRaw 16 (pToks k s).2).l
    rw [padN_id (n := 16) h3, List.flatten_append, List.flatten_cons, List.flatten_nil, List.append_nil, List.append_assoc, ← h2]
    exact h5
theorem toksBk : ∀ (T : List (List Int)) (k : Nat), k ≤ T.length → (∀ t ∈ T, t.length = 16) → ∀ t, pToks k ⟨T.flatten ++ t, false⟩ = (T.take k, ⟨(T.drop k).flatten ++ t, false⟩)
  | T, 0, _, _, t => rfl
  | T, k + 1, hk, hT, t => by
    have ih := toksBk T k (by omega) hT t
    have hx := List.getElem?_eq_getElem (show k < T.length by omega)
    have hl := hT _ (List.mem_of_getElem? hx)
    have e : (T.drop k).flatten ++ t = T[k] ++ ((T.drop (k + 1)).flatten ++ t) := by
      rw [List.drop_eq_getElem_cons (by omega), List.flatten_cons, List.append_assoc]
    obtain ⟨r1, r2⟩ := rawBk (n := 16) (l := T[k]) (t := (T.drop (k + 1)).flatten ++ t) (by omega)
    show ((pToks k _).1 ++ [padN 16 (vRaw 16 (pToks k _).2)], pRaw 16 (pToks k _).2) = _
    rw [ih, e, r1, r2, padN_id hl, List.take_add_one, hx]
    rfl
theorem toks_len : ∀ (k : Nat) (s : PS), (pToks k s).1.length = k
  | 0, _ => rfl
  | k + 1, s => by
    show ((pToks k s).1 ++ [_]).length = _
    rw [List.length_append, toks_len k s]; rfl
theorem toks256 : ∀ (k : Nat) (s : PS), bytes256 s.l → (∀ t ∈ (pToks k s).1, t.length = 16 ∧ bytes256 t) ∧ bytes256 (pToks k s).2.l
  | 0, s, h => ⟨fun t ht => (by cases ht), h⟩
  | k + 1, s, h => by
    obtain ⟨h1, h2⟩ := toks256 k s h
    refine ⟨fun t ht => ?_, raw256 h2⟩
    rcases List.mem_append.1 ht with ht | ht
    · exact h1 t ht
    · rw [List.mem_singleton] at ht
      subst ht
      exact ⟨padN_len _ _, pad256 (vRaw256 h2)⟩
def p0 (b : List Int) : PS := ⟨b, false⟩
def p1 (b : List Int) : PS := pNum 6 (p0 b)
def p2 (b : List Int) : PS := pNum 1048576 (p1 b)
def p3 (b : List Int) : PS := pRaw 32 (p2 b)
def p4 (b : List Int) : PS := pNum 255 (p3 b)
def p5 (b : List Int) : PS := pFlag (p4 b)
def p6 (b : List Int) : PS := pNum 1099511627776 (p5 b)
def p7 (b : List Int) : PS := pRaw 16 (p6 b)
def p8 (b : List Int) : PS := pNum 8 (p7 b)
def hN (b : List Int) : Nat := (vNum 8 (p7 b)).toNat
def hT (b : List Int) : List (List Int) := (pToks (hN b) (p8 b)).1
def k0 (b : List Int) : PS := (pToks (hN b) (p8 b)).2
def k1 (b : List Int) : PS := pNum 1048576 (k0 b)
def k2 (b : List Int) : PS := pNum 1048576 (k1 b)
def k3 (b : List Int) : PS := pNum 1048576 (k2 b)
def k4 (b : List Int) : PS := pNum 1048576 (k3 b)
def k5 (b : List Int) : PS := pNum 1048576 (k4 b)
def k6 (b : List Int) : PS := pNum 1048576 (k5 b)
def p15 (b : List Int) : PS := pRaw 32 (k6 b)
def p16 (b : List Int) : PS := pNum 2064 (p15 b)
def p17 (b : List Int) : PS := pRaw 32 (p16 b)
def hdRow (b : List Int) (u : Value) : List Value :=
  [.int .i64 (vNum 6 (p0 b)), .int .u64 (vNum 1048576 (p1 b))] ++ bys (padN 32 (vRaw 32 (p2 b))) ++ [.int .i64 (vNum 255 (p3 b)), .bool (vFlag (p4 b)), .int .u64 (vNum 1099511627776 (p5 b))] ++ bys (padN 16 (vRaw 16 (p6 b))) ++ [u] ++
  [.int .u64 (vNum 1048576 (k0 b)), .int .u64 (vNum 1048576 (k1 b)), .int .u64 (vNum 1048576 (k2 b)), .int .u64 (vNum 1048576 (k3 b)), .int .u64 (vNum 1048576 (k4 b)), .int .u64 (vNum 1048576 (k5 b))] ++ bys (padN 32 (vRaw 32 (k6 b))) ++ [.int .i64 (vNum 2064 (p15 b))] ++ bys (padN 32 (vRaw 32 (p16 b)))
theorem segI_mid {A C : List Value} {B : List Int} {a n : Nat} (ha : A.length = a) (hn : B.length = n) : segI (A ++ bys B ++ C) a n = B := by
  subst ha hn
  apply List.ext_getElem?
  intro j
  unfold segI
  rw [List.getElem?_map]
  by_cases hj : j < B.length
  · rw [List.getElem?_range hj, Option.map_some, List.getElem?_eq_getElem hj]
    unfold cI bys
    rw [List.getElem?_append_left (by rw [List.length_append, List.length_map]; omega), List.getElem?_append_right (by omega), show A.length + j - A.length = j by omega, List.getElem?_map, List.getElem?_eq_getElem hj]
    rfl
  · rw [List.getElem?_eq_none (by simp; omega), List.getElem?_eq_none (by omega)]; rfl
def prH (b : List Int) : Hd := ⟨hdRow b (.bool false), hT b⟩
section
variable (b : List Int)
theorem c_0 : cI (prH b).c 0 = vNum 6 (p0 b) := rfl
theorem c_1 : cI (prH b).c 1 = vNum 1048576 (p1 b) := rfl
theorem c_2 : segI (prH b).c 2 32 = padN 32 (vRaw 32 (p2 b)) := by
  have e : (prH b).c = ([Value.int .i64 (vNum 6 (p0 b)), .int .u64 (vNum 1048576 (p1 b))]) ++ bys (padN 32 (vRaw 32 (p2 b))) ++ ([Value.int .i64 (vNum 255 (p3 b)), .bool (vFlag (p4 b)), .int .u64 (vNum 1099511627776 (p5 b))] ++ (bys (padN 16 (vRaw 16 (p6 b))) ++ ([Value.bool false] ++ ([Value.int .u64 (vNum 1048576 (k0 b)), .int .u64 (vNum 1048576 (k1 b)), .int .u64 (vNum 1048576 (k2 b)), .int .u64 (vNum 1048576 (k3 b)), .int .u64 (vNum 1048576 (k4 b)), .int .u64 (vNum 1048576 (k5 b))] ++ (bys (padN 32 (vRaw 32 (k6 b))) ++ ([Value.int .i64 (vNum 2064 (p15 b))] ++ (bys (padN 32 (vRaw 32 (p16 b)))))))))) := by
    show hdRow b (.bool false) = _
    unfold hdRow
    simp only [List.append_assoc, List.append_nil]
  rw [e]
  exact segI_mid (by simp [padN_len, bys]) (padN_len _ _)
theorem c_34 : cI (prH b).c 34 = vNum 255 (p3 b) := rfl
theorem c_35 : cB (prH b).c 35 = vFlag (p4 b) := rfl
theorem c_36 : cI (prH b).c 36 = vNum 1099511627776 (p5 b) := rfl
theorem c_37 : segI (prH b).c 37 16 = padN 16 (vRaw 16 (p6 b)) := by
  have e : (prH b).c = ([Value.int .i64 (vNum 6 (p0 b)), .int .u64 (vNum 1048576 (p1 b))] ++ bys (padN 32 (vRaw 32 (p2 b))) ++ [Value.int .i64 (vNum 255 (p3 b)), .bool (vFlag (p4 b)), .int .u64 (vNum 1099511627776 (p5 b))]) ++ bys (padN 16 (vRaw 16 (p6 b))) ++ ([Value.bool false] ++ ([Value.int .u64 (vNum 1048576 (k0 b)), .int .u64 (vNum 1048576 (k1 b)), .int .u64 (vNum 1048576 (k2 b)), .int .u64 (vNum 1048576 (k3 b)), .int .u64 (vNum 1048576 (k4 b)), .int .u64 (vNum 1048576 (k5 b))] ++ (bys (padN 32 (vRaw 32 (k6 b))) ++ ([Value.int .i64 (vNum 2064 (p15 b))] ++ (bys (padN 32 (vRaw 32 (p16 b)))))))) := by
    show hdRow b (.bool false) = _
    unfold hdRow
    simp only [List.append_assoc, List.append_nil]
  rw [e]
  exact segI_mid (by simp [padN_len, bys]) (padN_len _ _)
theorem c_54 : cI (prH b).c 54 = vNum 1048576 (k0 b) := rfl
theorem c_55 : cI (prH b).c 55 = vNum 1048576 (k1 b) := rfl
theorem c_56 : cI (prH b).c 56 = vNum 1048576 (k2 b) := rfl
theorem c_57 : cI (prH b).c 57 = vNum 1048576 (k3 b) := rfl
theorem c_58 : cI (prH b).c 58 = vNum 1048576 (k4 b) := rfl
theorem c_59 : cI (prH b).c 59 = vNum 1048576 (k5 b) := rfl
theorem c_60 : segI (prH b).c 60 32 = padN 32 (vRaw 32 (k6 b)) := by
  have e : (prH b).c = ([Value.int .i64 (vNum 6 (p0 b)), .int .u64 (vNum 1048576 (p1 b))] ++ bys (padN 32 (vRaw 32 (p2 b))) ++ [Value.int .i64 (vNum 255 (p3 b)), .bool (vFlag (p4 b)), .int .u64 (vNum 1099511627776 (p5 b))] ++ bys (padN 16 (vRaw 16 (p6 b))) ++ [Value.bool false] ++ [Value.int .u64 (vNum 1048576 (k0 b)), .int .u64 (vNum 1048576 (k1 b)), .int .u64 (vNum 1048576 (k2 b)), .int .u64 (vNum 1048576 (k3 b)), .int .u64 (vNum 1048576 (k4 b)), .int .u64 (vNum 1048576 (k5 b))]) ++ bys (padN 32 (vRaw 32 (k6 b))) ++ ([Value.int .i64 (vNum 2064 (p15 b))] ++ (bys (padN 32 (vRaw 32 (p16 b))))) := by
    show hdRow b (.bool false) = _
    unfold hdRow
    simp only [List.append_assoc, List.append_nil]
  rw [e]
  exact segI_mid (by simp [padN_len, bys]) (padN_len _ _)
theorem c_92 : cI (prH b).c 92 = vNum 2064 (p15 b) := rfl
theorem c_93 : segI (prH b).c 93 32 = padN 32 (vRaw 32 (p16 b)) := by
  have e : (prH b).c = ([Value.int .i64 (vNum 6 (p0 b)), .int .u64 (vNum 1048576 (p1 b))] ++ bys (padN 32 (vRaw 32 (p2 b))) ++ [Value.int .i64 (vNum 255 (p3 b)), .bool (vFlag (p4 b)), .int .u64 (vNum 1099511627776 (p5 b))] ++ bys (padN 16 (vRaw 16 (p6 b))) ++ [Value.bool false] ++ [Value.int .u64 (vNum 1048576 (k0 b)), .int .u64 (vNum 1048576 (k1 b)), .int .u64 (vNum 1048576 (k2 b)), .int .u64 (vNum 1048576 (k3 b)), .int .u64 (vNum 1048576 (k4 b)), .int .u64 (vNum 1048576 (k5 b))] ++ bys (padN 32 (vRaw 32 (k6 b))) ++ [Value.int .i64 (vNum 2064 (p15 b))]) ++ bys (padN 32 (vRaw 32 (p16 b))) ++ ([]) := by
    show hdRow b (.bool false) = _
    unfold hdRow
    simp only [List.append_assoc, List.append_nil]
  rw [e]
  exact segI_mid (by simp [padN_len, bys]) (padN_len _ _)
end
theorem u64N_id {z : Int} (h0 : 0 ≤ z) (h1 : z < 18446744073709551616) : u64N z = z.toNat := by unfold u64N; rw [wu64 h0 h1]
theorem lawA {b : List Int} (hb : bytes256 b) (h : (p17 b).bad = false) (hl : (p17 b).l = []) : hdB (prH b) = b := by
  have b0 : bytes256 (p0 b).l := hb
  have b1 : bytes256 (p1 b).l := num256 b0
  have b2 : bytes256 (p2 b).l := num256 b1
  have b3 : bytes256 (p3 b).l := raw256 b2
  have b4 : bytes256 (p4 b).l := num256 b3
  have b5 : bytes256 (p5 b).l := flag256 b4
  have b6 : bytes256 (p6 b).l := num256 b5
  have b7 : bytes256 (p7 b).l := raw256 b6
  have b8 : bytes256 (p8 b).l := num256 b7
  have d0 : bytes256 (k0 b).l := (toks256 _ _ b8).2
  have d1 : bytes256 (k1 b).l := num256 d0
  have d2 : bytes256 (k2 b).l := num256 d1
  have d3 : bytes256 (k3 b).l := num256 d2
  have d4 : bytes256 (k4 b).l := num256 d3
  have d5 : bytes256 (k5 b).l := num256 d4
  have d6 : bytes256 (k6 b).l := num256 d5
  have b15 : bytes256 (p15 b).l := raw256 d6
  obtain ⟨h16, e17, n17⟩ := rawA (s := p16 b) (n := 32) h
  obtain ⟨h15, e16, x16, y16, _⟩ := numA (s := p15 b) (m := 2064) b15 h16
  obtain ⟨g6, e15, n15⟩ := rawA (s := k6 b) (n := 32) h15
  obtain ⟨g5, f6, _⟩ := numA (s := k5 b) (m := 1048576) d5 g6
  obtain ⟨g4, f5, _⟩ := numA (s := k4 b) (m := 1048576) d4 g5
  obtain ⟨g3, f4, _⟩ := numA (s := k3 b) (m := 1048576) d3 g4
  obtain ⟨g2, f3, _⟩ := numA (s := k2 b) (m := 1048576) d2 g3
  obtain ⟨g1, f2, _⟩ := numA (s := k1 b) (m := 1048576) d1 g2
  obtain ⟨g0, f1, _⟩ := numA (s := k0 b) (m := 1048576) d0 g1
  obtain ⟨h8, f0⟩ := toksA (hN b) (p8 b) g0
  obtain ⟨h7, e8, x8, y8, _⟩ := numA (s := p7 b) (m := 8) b7 h8
  obtain ⟨h6, e7, n7⟩ := rawA (s := p6 b) (n := 16) h7
  obtain ⟨h5, e6, _⟩ := numA (s := p5 b) (m := 1099511627776) b5 h6
  obtain ⟨h4, e5⟩ := flagA (s := p4 b) h5 b4
  obtain ⟨h3, e4, x4, y4, _⟩ := numA (s := p3 b) (m := 255) b3 h4
  obtain ⟨h2, e3, n3⟩ := rawA (s := p2 b) (n := 32) h3
  obtain ⟨h1, e2, _⟩ := numA (s := p1 b) (m := 1048576) b1 h2
  obtain ⟨_, e1, x1, y1, _⟩ := numA (s := p0 b) (m := 6) b0 h1
  have e17 : (p16 b).l = vRaw 32 (p16 b) := by rw [e17]; show _ ++ (p17 b).l = _; rw [hl, List.append_nil]
  have e1 : b = _ ++ (p1 b).l := e1
  have e2 : (p1 b).l = _ ++ (p2 b).l := e2
  have e3 : (p2 b).l = _ ++ (p3 b).l := e3
  have e4 : (p3 b).l = _ ++ (p4 b).l := e4
  have e5 : (p4 b).l = _ ++ (p5 b).l := e5
  have e6 : (p5 b).l = _ ++ (p6 b).l := e6
  have e7 : (p6 b).l = _ ++ (p7 b).l := e7
  have e8 : (p7 b).l = numB (hN b) ++ (p8 b).l := e8
  have f0 : (p8 b).l = (hT b).flatten ++ (k0 b).l := f0
  have f1 : (k0 b).l = _ ++ (k1 b).l := f1
  have f2 : (k1 b).l = _ ++ (k2 b).l := f2
  have f3 : (k2 b).l = _ ++ (k3 b).l := f3
  have f4 : (k3 b).l = _ ++ (k4 b).l := f4
  have f5 : (k4 b).l = _ ++ (k5 b).l := f5
  have f6 : (k5 b).l = _ ++ (k6 b).l := f6
  have e15 : (k6 b).l = _ ++ (p15 b).l := e15
  have e16 : (p15 b).l = _ ++ (p16 b).l := e16
  have hlen : (hT b).length = hN b := toks_len _ _
  have key : hdB (prH b) = numB (vNum 6 (p0 b)).toNat ++ (numB (vNum 1048576 (p1 b)).toNat ++ (vRaw 32 (p2 b) ++ (numB (vNum 255 (p3 b)).toNat ++ (flagB (vFlag (p4 b)) ++ (numB (vNum 1099511627776 (p5 b)).toNat ++ (vRaw 16 (p6 b) ++ (numB (hN b) ++ ((hT b).flatten ++ (numB (vNum 1048576 (k0 b)).toNat ++ (numB (vNum 1048576 (k1 b)).toNat ++ (numB (vNum 1048576 (k2 b)).toNat ++ (numB (vNum 1048576 (k3 b)).toNat ++ (numB (vNum 1048576 (k4 b)).toNat ++ (numB (vNum 1048576 (k5 b)).toNat ++ (vRaw 32 (k6 b) ++ (numB (vNum 2064 (p15 b)).toNat ++ vRaw 32 (p16 b))))))))))))))))) := by
    unfold hdB coreB coreZ coreA
    show _ ++ numB (hT b).length ++ (hT b).flatten ++ _ ++ _ ++ _ ++ _ ++ _ ++ _ ++ _ ++ _ ++ _ = _
    rw [hlen, c_0, c_1, c_2, c_34, c_35, c_36, c_37, c_54, c_55, c_56, c_57, c_58, c_59, c_60, c_92, c_93, u64N_id x1 (by omega), u64N_id x4 (by omega), u64N_id x16 (by omega), padN_id (n := 32) n3, padN_id (n := 16) n7, padN_id (n := 32) n15, padN_id (n := 32) n17]
    simp only [List.append_assoc]
  rw [key, ← e17, ← e16, ← e15, ← f6, ← f5, ← f4, ← f3, ← f2, ← f1, ← f0, ← e8, ← e7, ← e6, ← e5, ← e4, ← e3, ← e2, ← e1]
end Go.Proofs.YtomdimlnggpgbaaDoor
namespace Go.Proofs.YtomdimlnggpgbaaDoor
open Go Go.Sx Go.Pk
section
variable {s : PS} {t : List Int}
theorem numS' {m : Int} {z : Nat} (hs : s = ⟨numB z ++ t, false⟩) (h1 : (z : Int) ≤ m) (h2 : z < 18446744073709551616) : pNum m s = ⟨t, false⟩ ∧ vNum m s = z := by
  subst hs; exact numBk h1 h2
theorem rawS' {n : Int} {l : List Int} (hs : s = ⟨l ++ t, false⟩) (h : (l.length : Int) = n) : pRaw n s = ⟨t, false⟩ ∧ vRaw n s = l := by
  subst hs; exact rawBk h
theorem flagS' {b : Bool} (hs : s = ⟨flagB b ++ t, false⟩) : pFlag s = ⟨t, false⟩ ∧ vFlag s = b := by
  subst hs; exact flagBk
theorem toksS' {T : List (List Int)} (hs : s = ⟨T.flatten ++ t, false⟩) (hT : ∀ x ∈ T, x.length = 16) : pToks T.length s = (T, ⟨t, false⟩) := by
  subst hs
  rw [toksBk T T.length (Nat.le_refl _) hT, List.take_length, List.drop_length, List.flatten_nil, List.nil_append]
end
theorem zer_seg {a b : List Value} {i n : Nat} (h : segI a i n = segI b i n) : zer (cI a) i n ↔ zer (cI b) i n := by
  refine zer_congr fun j hj => ?_
  have := congrArg (fun l => l[j]?) h
  unfold segI at this
  simpa [List.getElem?_map, List.getElem?_range hj] using this
theorem lawB {R : Hl} {row : List Value} {h : Hd} (hx : IsHd R row h) (hF : h.Form) : (p17 (hdB h)).bad = false ∧ (p17 (hdB h)).l = [] ∧ (prH (hdB h)).Form := by
  obtain ⟨⟨hw, hs, he, ht, hk, hkn, hp⟩, h8, hso, hpd, hct⟩ := id hF
  have u : ∀ {k : Nat}, hkd[k]? = some (.int .u64) → k ≠ 53 → 0 ≤ cI h.c k := fun {k} hk h53 => by
    rw [hx.I h53]; exact (hx.rng _ (List.mem_of_getElem? (row_u64 hx.ok hk))).1
  have u1 : 0 ≤ cI h.c 1 := u rfl (by decide)
  have u36 : 0 ≤ cI h.c 36 := u rfl (by decide)
  have u54 : 0 ≤ cI h.c 54 := u rfl (by decide)
  have u55 : 0 ≤ cI h.c 55 := u rfl (by decide)
  have u56 : 0 ≤ cI h.c 56 := u rfl (by decide)
  have u57 : 0 ≤ cI h.c 57 := u rfl (by decide)
  have u58 : 0 ≤ cI h.c 58 := u rfl (by decide)
  have u59 : 0 ≤ cI h.c 59 := u rfl (by decide)
  have hsz : 80 ≤ cI h.c 92 ∧ cI h.c 92 ≤ 2064 := isPad_in hpd
  have ht16 : ∀ t ∈ h.t, t.length = 16 := fun t ht => (hx.byte.2 t ht).1
  generalize hb : hdB h = b
  have key : b = numB (cI h.c 0).toNat ++ (numB (cI h.c 1).toNat ++ (segI h.c 2 32 ++ (numB (cI h.c 34).toNat ++ (flagB (cB h.c 35) ++ (numB (cI h.c 36).toNat ++ (segI h.c 37 16 ++ (numB h.t.length ++ (h.t.flatten ++ (numB (cI h.c 54).toNat ++ (numB (cI h.c 55).toNat ++ (numB (cI h.c 56).toNat ++ (numB (cI h.c 57).toNat ++ (numB (cI h.c 58).toNat ++ (numB (cI h.c 59).toNat ++ (segI h.c 60 32 ++ (numB (cI h.c 92).toNat ++ (segI h.c 93 32 ++ ([])))))))))))))))))) := by
    rw [← hb]
    unfold hdB coreB coreZ coreA
    rw [u64N_id (z := cI h.c 0) (by omega) (by omega), u64N_id (z := cI h.c 34) (by omega) (by omega), u64N_id (z := cI h.c 92) (by omega) (by omega)]
    simp only [List.append_assoc, List.append_nil]
  have s0 : p0 b = ⟨_, false⟩ := congrArg (fun l => PS.mk l false) key
  obtain ⟨s1, v1⟩ := numS' (m := 6) (z := (cI h.c 0).toNat) s0 (by omega) (by omega)
  have s1 : p1 b = ⟨_, false⟩ := s1
  obtain ⟨s2, v2⟩ := numS' (m := 1048576) (z := (cI h.c 1).toNat) s1 (by omega) (by omega)
  have s2 : p2 b = ⟨_, false⟩ := s2
  obtain ⟨s3, v3⟩ := rawS' (n := 32) (l := segI h.c 2 32) s2 (by rw [segI_len]; rfl)
  have s3 : p3 b = ⟨_, false⟩ := s3
  obtain ⟨s4, v4⟩ := numS' (m := 255) (z := (cI h.c 34).toNat) s3 (by omega) (by omega)
  have s4 : p4 b = ⟨_, false⟩ := s4
  obtain ⟨s5, v5⟩ := flagS' s4
  have s5 : p5 b = ⟨_, false⟩ := s5
  obtain ⟨s6, v6⟩ := numS' (m := 1099511627776) (z := (cI h.c 36).toNat) s5 (by omega) (by omega)
  have s6 : p6 b = ⟨_, false⟩ := s6
  obtain ⟨s7, v7⟩ := rawS' (n := 16) (l := segI h.c 37 16) s6 (by rw [segI_len]; rfl)
  have s7 : p7 b = ⟨_, false⟩ := s7
  obtain ⟨s8, v8⟩ := numS' (m := 8) (z := h.t.length) s7 (by omega) (by omega)
  have s8 : p8 b = ⟨_, false⟩ := s8
  have vN : hN b = h.t.length := by unfold hN; rw [v8]; exact Int.toNat_natCast _
  have sT := toksS' s8 ht16
  rw [← vN] at sT
  have s9 : (pToks (hN b) (p8 b)).2 = ⟨_, false⟩ := congrArg Prod.snd sT
  have vT : hT b = h.t := congrArg Prod.fst sT
  have s9 : k0 b = ⟨_, false⟩ := s9
  obtain ⟨s10, v10⟩ := numS' (m := 1048576) (z := (cI h.c 54).toNat) s9 (by omega) (by omega)
  have s10 : k1 b = ⟨_, false⟩ := s10
  obtain ⟨s11, v11⟩ := numS' (m := 1048576) (z := (cI h.c 55).toNat) s10 (by omega) (by omega)
  have s11 : k2 b = ⟨_, false⟩ := s11
  obtain ⟨s12, v12⟩ := numS' (m := 1048576) (z := (cI h.c 56).toNat) s11 (by omega) (by omega)
  have s12 : k3 b = ⟨_, false⟩ := s12
  obtain ⟨s13, v13⟩ := numS' (m := 1048576) (z := (cI h.c 57).toNat) s12 (by omega) (by omega)
  have s13 : k4 b = ⟨_, false⟩ := s13
  obtain ⟨s14, v14⟩ := numS' (m := 1048576) (z := (cI h.c 58).toNat) s13 (by omega) (by omega)
  have s14 : k5 b = ⟨_, false⟩ := s14
  obtain ⟨s15, v15⟩ := numS' (m := 1048576) (z := (cI h.c 59).toNat) s14 (by omega) (by omega)
  have s15 : k6 b = ⟨_, false⟩ := s15
  obtain ⟨s16, v16⟩ := rawS' (n := 32) (l := segI h.c 60 32) s15 (by rw [segI_len]; rfl)
  have s16 : p15 b = ⟨_, false⟩ := s16
  obtain ⟨s17, v17⟩ := numS' (m := 2064) (z := (cI h.c 92).toNat) s16 (by omega) (by omega)
  have s17 : p16 b = ⟨_, false⟩ := s17
  obtain ⟨s18, v18⟩ := rawS' (n := 32) (l := segI h.c 93 32) s17 (by rw [segI_len]; rfl)
  have s18 : p17 b = ⟨_, false⟩ := s18
  refine ⟨congrArg PS.bad s18, congrArg PS.l s18, ?_⟩
  have q0 : cI (prH b).c 0 = cI h.c 0 := (c_0 b).trans (v1.trans (by omega))
  have q1 : cI (prH b).c 1 = cI h.c 1 := (c_1 b).trans (v2.trans (by omega))
  have q34 : cI (prH b).c 34 = cI h.c 34 := (c_34 b).trans (v4.trans (by omega))
  have q36 : cI (prH b).c 36 = cI h.c 36 := (c_36 b).trans (v6.trans (by omega))
  have q54 : cI (prH b).c 54 = cI h.c 54 := (c_54 b).trans (v10.trans (by omega))
  have q55 : cI (prH b).c 55 = cI h.c 55 := (c_55 b).trans (v11.trans (by omega))
  have q56 : cI (prH b).c 56 = cI h.c 56 := (c_56 b).trans (v12.trans (by omega))
  have q57 : cI (prH b).c 57 = cI h.c 57 := (c_57 b).trans (v13.trans (by omega))
  have q58 : cI (prH b).c 58 = cI h.c 58 := (c_58 b).trans (v14.trans (by omega))
  have q59 : cI (prH b).c 59 = cI h.c 59 := (c_59 b).trans (v15.trans (by omega))
  have q92 : cI (prH b).c 92 = cI h.c 92 := (c_92 b).trans (v17.trans (by omega))
  have q35 : cB (prH b).c 35 = cB h.c 35 := (c_35 b).trans v5
  have qz1 : zer (cI (prH b).c) 2 32 ↔ zer (cI h.c) 2 32 := zer_seg ((c_2 b).trans (by rw [show vRaw 32 (p2 b) = _ from v3]; exact padN_id (segI_len _ _ _)))
  have qz2 : zer (cI (prH b).c) 37 16 ↔ zer (cI h.c) 37 16 := zer_seg ((c_37 b).trans (by rw [show vRaw 16 (p6 b) = _ from v7]; exact padN_id (segI_len _ _ _)))
  have qk : cI (prH b).c (54 + (cI h.c 0 - 1).toNat) = cI h.c (54 + (cI h.c 0 - 1).toNat) := by
    have : (cI h.c 0 - 1).toNat = 0 ∨ (cI h.c 0 - 1).toNat = 1 ∨ (cI h.c 0 - 1).toNat = 2 ∨ (cI h.c 0 - 1).toNat = 3 ∨ (cI h.c 0 - 1).toNat = 4 ∨ (cI h.c 0 - 1).toNat = 5 := by omega
    rcases this with e | e | e | e | e | e <;> rw [e]
    · exact q54
    · exact q55
    · exact q56
    · exact q57
    · exact q58
    · exact q59
  have qt : (prH b).t = h.t := vT
  unfold Hd.Form placedP
  rw [qt, q35, q0, q1, q34, q36, qk, q54, q55, q56, q57, q58, q59, q92, qz1, qz2]
  exact ⟨⟨hw, hs, he, ht, hk, hkn, hp⟩, h8, hso, hpd, hct⟩
end Go.Proofs.YtomdimlnggpgbaaDoor
namespace Go.Proofs.YtomdimlnggpgbaaDoor
open Go Go.Sx Go.Pk
def cpyC (a n : Nat) (N : E) (h : Nat) (X Y : E) (old : Nat → E) : List CV := (List.range n).map fun j => .int .u8 (.ite (.lt (.lit ((a + j : Nat) : Int)) (.add (.lit (a : Int)) N)) (.hI h X Y j) (old j))
def cpyD (n : Nat) (N : E) (h : Nat) (X Y : E) (old : Nat → E) : List CV := (List.range n).map fun j => .int .u8 (.ite (.lt (.lit ((j : Nat) : Int)) N) (.hI h X Y j) (old j))
def parM0 : List CV := ([.int .i64 (.wrap .i64 (.var 9)), .int .u64 (.var 11)] ++ (cpyC 2 32 (.ite (.lt (.var 15) (.lit 32)) (.var 15) (.lit 32)) 14 (.var 13) (.var 14) (fun _ => .lit 0)) ++ [.int .i64 (.wrap .i64 (.var 17)), .bool (.bvar 19), .int .u64 (.var 21)] ++ (cpyC 37 16 (.ite (.lt (.var 25) (.lit 16)) (.var 25) (.lit 16)) 24 (.var 23) (.var 24) (fun _ => .lit 0)) ++ [.sl (.lit (-1)) (.lit 0) (.lit 0) (.lit 0), .int .u64 (.lit 0), .int .u64 (.lit 0), .int .u64 (.lit 0), .int .u64 (.lit 0), .int .u64 (.lit 0), .int .u64 (.lit 0)] ++ List.replicate 32 (CV.int .u8 (.lit 0)) ++ [.int .i64 (.lit 0)] ++ List.replicate 32 (CV.int .u8 (.lit 0)))
def parM1 : List CV := (ckCVs 300 ([Ck.int .i64, Ck.int .u64] ++ List.replicate 32 (Ck.int .u8) ++ [Ck.int .i64, Ck.bool, Ck.int .u64] ++ List.replicate 16 (Ck.int .u8)) ++ [.sl (.var 446) (.lit 0) (.add (.var 355) (.lit 1)) (.var 447)] ++ ckCVs 357 (List.replicate 6 (Ck.int .u64) ++ List.replicate 32 (Ck.int .u8) ++ [Ck.int .i64] ++ List.replicate 32 (Ck.int .u8)))
def parF : List CV := (ckCVs 300 ([Ck.int .i64, Ck.int .u64] ++ List.replicate 32 (Ck.int .u8) ++ [Ck.int .i64, Ck.bool, Ck.int .u64] ++ List.replicate 16 (Ck.int .u8) ++ [Ck.sl]) ++ [.int .u64 (.var 440), .int .u64 (.var 442), .int .u64 (.var 444), .int .u64 (.var 446), .int .u64 (.var 448), .int .u64 (.var 450)] ++ (cpyC 60 32 (.ite (.lt (.var 454) (.lit 32)) (.var 454) (.lit 32)) 453 (.var 452) (.var 453) (fun j => .var (363 + j))) ++ [.int .i64 (.wrap .i64 (.var 456))] ++ (cpyC 93 32 (.ite (.lt (.var 460) (.lit 32)) (.var 460) (.lit 32)) 459 (.var 458) (.var 459) (fun j => .var (396 + j))))
def parZ : List CV := ([.int .i64 (.lit 0), .int .u64 (.lit 0)] ++ List.replicate 32 (CV.int .u8 (.lit 0)) ++ [.int .i64 (.lit 0), .bool .ff, .int .u64 (.lit 0)] ++ List.replicate 16 (CV.int .u8 (.lit 0)) ++ [.sl (.lit (-1)) (.lit 0) (.lit 0) (.lit 0), .int .u64 (.lit 0), .int .u64 (.lit 0), .int .u64 (.lit 0), .int .u64 (.lit 0), .int .u64 (.lit 0), .int .u64 (.lit 0)] ++ List.replicate 32 (CV.int .u8 (.lit 0)) ++ [.int .i64 (.lit 0)] ++ List.replicate 32 (CV.int .u8 (.lit 0)))
def parA0 : List As := ([⟨430, 0, .int .i64 (.lit 0)⟩] : List As) ++ (mLd 29 (ckCVs 300 hk2) parM0)
def parA1 : List As := ([⟨430, 0, .int .i64 (.wrap .u64 (.add (.var 430) (.lit 1)))⟩] : List As) ++ (mLd 29 (ckCVs 300 hk2) parM1)
def eParNd : Nd := .ext (.alloc 5) (.ext (.alloc 6) (.and (.pre (.call 0 7 [.sv (.one (.sl (.var 0) (.var 1) (.var 2) (.var 3)))] [] [.ro 4 [.var 0] false])) (.ext (.call 0 7 [.sv (.one (.sl (.var 0) (.var 1) (.var 2) (.var 3)))] [] [.ro 4 [.var 0] false]) (.and (.pre (.call 1 9 [.sv (.one (.hptr (.var 7) (.var 8))), .sv (.one (.int .u64 (.lit 6)))] [.hp 7 [] [.var 7] []] [])) (.ext (.call 1 9 [.sv (.one (.hptr (.var 7) (.var 8))), .sv (.one (.int .u64 (.lit 6)))] [.hp 7 [] [.var 7] []] []) (.and (.pre (.call 1 11 [.sv (.one (.hptr (.var 7) (.var 8))), .sv (.one (.int .u64 (.lit 1048576)))] [.hp 9 [7] [.var 7] []] [])) (.ext (.call 1 11 [.sv (.one (.hptr (.var 7) (.var 8))), .sv (.one (.int .u64 (.lit 1048576)))] [.hp 9 [7] [.var 7] []] []) (.and (.pre (.call 3 13 [.sv (.one (.hptr (.var 7) (.var 8))), .sv (.one (.int .i64 (.lit 32)))] [.hp 11 [9, 7] [.var 7] []] [])) (.ext (.call 3 13 [.sv (.one (.hptr (.var 7) (.var 8))), .sv (.one (.int .i64 (.lit 32)))] [.hp 11 [9, 7] [.var 7] []] []) (.and (.e (.and (.or (.and (.eq (.var 13) (.lit (-1))) (.eq (.var 15) (.lit 0))) (.and (.le (.lit 0) (.var 13)) (.and (.le (.lit 0) (.var 14)) (.hby 14 (.var 13) (.var 14) (.ite (.lt (.var 15) (.lit 32)) (.var 15) (.lit 32)))))) (.and (.le (.lit 0) (.var 15)) (.le (.add (.lit 2) (.ite (.lt (.var 15) (.lit 32)) (.var 15) (.lit 32))) (.lit 125))))) (.and (.pre (.call 1 17 [.sv (.one (.hptr (.var 7) (.var 8))), .sv (.one (.int .u64 (.lit 255)))] [.hp 13 [11, 9, 7] [.var 7] []] [])) (.ext (.call 1 17 [.sv (.one (.hptr (.var 7) (.var 8))), .sv (.one (.int .u64 (.lit 255)))] [.hp 13 [11, 9, 7] [.var 7] []] []) (.and (.pre (.call 2 19 [.sv (.one (.hptr (.var 7) (.var 8)))] [.hp 17 [13, 11, 9, 7] [.var 7] []] [])) (.ext (.call 2 19 [.sv (.one (.hptr (.var 7) (.var 8)))] [.hp 17 [13, 11, 9, 7] [.var 7] []] []) (.and (.pre (.call 1 21 [.sv (.one (.hptr (.var 7) (.var 8))), .sv (.one (.int .u64 (.lit 1099511627776)))] [.hp 19 [17, 13, 11, 9, 7] [.var 7] []] [])) (.ext (.call 1 21 [.sv (.one (.hptr (.var 7) (.var 8))), .sv (.one (.int .u64 (.lit 1099511627776)))] [.hp 19 [17, 13, 11, 9, 7] [.var 7] []] []) (.and (.pre (.call 3 23 [.sv (.one (.hptr (.var 7) (.var 8))), .sv (.one (.int .i64 (.lit 16)))] [.hp 21 [19, 17, 13, 11, 9, 7] [.var 7] []] [])) (.ext (.call 3 23 [.sv (.one (.hptr (.var 7) (.var 8))), .sv (.one (.int .i64 (.lit 16)))] [.hp 21 [19, 17, 13, 11, 9, 7] [.var 7] []] []) (.and (.e (.and (.or (.and (.eq (.var 23) (.lit (-1))) (.eq (.var 25) (.lit 0))) (.and (.le (.lit 0) (.var 23)) (.and (.le (.lit 0) (.var 24)) (.hby 24 (.var 23) (.var 24) (.ite (.lt (.var 25) (.lit 16)) (.var 25) (.lit 16)))))) (.and (.le (.lit 0) (.var 25)) (.le (.add (.lit 37) (.ite (.lt (.var 25) (.lit 16)) (.var 25) (.lit 16))) (.lit 125))))) (.and (.pre (.call 1 27 [.sv (.one (.hptr (.var 7) (.var 8))), .sv (.one (.int .u64 (.lit 8)))] [.hp 23 [21, 19, 17, 13, 11, 9, 7] [.var 7] []] [])) (.ext (.call 1 27 [.sv (.one (.hptr (.var 7) (.var 8))), .sv (.one (.int .u64 (.lit 8)))] [.hp 23 [21, 19, 17, 13, 11, 9, 7] [.var 7] []] []) (.and (.inv 0 parA0 [(431, some 27), (432, none)]) (.havoc 0 0 29 (.and (.imp (.lt (.var 430) (.var 27)) (.ext (.alloc 440) (.and (.pre (.call 3 441 [.sv (.one (.hptr (.var 7) (.var 8))), .sv (.one (.int .i64 (.lit 16)))] [.hp 431 [] [.var 7] []] [])) (.ext (.call 3 441 [.sv (.one (.hptr (.var 7) (.var 8))), .sv (.one (.int .i64 (.lit 16)))] [.hp 431 [] [.var 7] []] []) (.and (.e (.and (.or (.and (.eq (.var 441) (.lit (-1))) (.eq (.var 443) (.lit 0))) (.and (.le (.lit 0) (.var 441)) (.and (.le (.lit 0) (.var 442)) (.hby 442 (.var 441) (.var 442) (.ite (.lt (.var 443) (.lit 16)) (.var 443) (.lit 16)))))) (.and (.le (.lit 0) (.var 443)) (.le (.ite (.lt (.var 443) (.lit 16)) (.var 443) (.lit 16)) (.lit 16))))) (.ext (.alloc 445) (.and (.pre (.app 446 97 16 16 (.sl (.var 353) (.var 354) (.var 355) (.var 356)) (.var 355) (.hp 432 [] [.var 353] []) (.cvs (cpyD 16 (.ite (.lt (.var 443) (.lit 16)) (.var 443) (.lit 16)) 442 (.var 441) (.var 442) (fun _ => .lit 0)) 1))) (.ext (.app 446 97 16 16 (.sl (.var 353) (.var 354) (.var 355) (.var 356)) (.var 355) (.hp 432 [] [.var 353] []) (.cvs (cpyD 16 (.ite (.lt (.var 443) (.lit 16)) (.var 443) (.lit 16)) 442 (.var 441) (.var 442) (fun _ => .lit 0)) 1)) (.back 0 0 parA1 [(431, some 441), (432, some 446)]))))))))) (.imp (.not (.lt (.var 430) (.var 27))) (.and (.pre (.call 1 440 [.sv (.one (.hptr (.var 7) (.var 8))), .sv (.one (.int .u64 (.lit 1048576)))] [.hp 431 [] [.var 7] []] [])) (.ext (.call 1 440 [.sv (.one (.hptr (.var 7) (.var 8))), .sv (.one (.int .u64 (.lit 1048576)))] [.hp 431 [] [.var 7] []] []) (.and (.pre (.call 1 442 [.sv (.one (.hptr (.var 7) (.var 8))), .sv (.one (.int .u64 (.lit 1048576)))] [.hp 440 [431] [.var 7] []] [])) (.ext (.call 1 442 [.sv (.one (.hptr (.var 7) (.var 8))), .sv (.one (.int .u64 (.lit 1048576)))] [.hp 440 [431] [.var 7] []] []) (.and (.pre (.call 1 444 [.sv (.one (.hptr (.var 7) (.var 8))), .sv (.one (.int .u64 (.lit 1048576)))] [.hp 442 [440, 431] [.var 7] []] [])) (.ext (.call 1 444 [.sv (.one (.hptr (.var 7) (.var 8))), .sv (.one (.int .u64 (.lit 1048576)))] [.hp 442 [440, 431] [.var 7] []] []) (.and (.pre (.call 1 446 [.sv (.one (.hptr (.var 7) (.var 8))), .sv (.one (.int .u64 (.lit 1048576)))] [.hp 444 [442, 440, 431] [.var 7] []] [])) (.ext (.call 1 446 [.sv (.one (.hptr (.var 7) (.var 8))), .sv (.one (.int .u64 (.lit 1048576)))] [.hp 444 [442, 440, 431] [.var 7] []] []) (.and (.pre (.call 1 448 [.sv (.one (.hptr (.var 7) (.var 8))), .sv (.one (.int .u64 (.lit 1048576)))] [.hp 446 [444, 442, 440, 431] [.var 7] []] [])) (.ext (.call 1 448 [.sv (.one (.hptr (.var 7) (.var 8))), .sv (.one (.int .u64 (.lit 1048576)))] [.hp 446 [444, 442, 440, 431] [.var 7] []] []) (.and (.pre (.call 1 450 [.sv (.one (.hptr (.var 7) (.var 8))), .sv (.one (.int .u64 (.lit 1048576)))] [.hp 448 [446, 444, 442, 440, 431] [.var 7] []] [])) (.ext (.call 1 450 [.sv (.one (.hptr (.var 7) (.var 8))), .sv (.one (.int .u64 (.lit 1048576)))] [.hp 448 [446, 444, 442, 440, 431] [.var 7] []] []) (.and (.pre (.call 3 452 [.sv (.one (.hptr (.var 7) (.var 8))), .sv (.one (.int .i64 (.lit 32)))] [.hp 450 [448, 446, 444, 442, 440, 431] [.var 7] []] [])) (.ext (.call 3 452 [.sv (.one (.hptr (.var 7) (.var 8))), .sv (.one (.int .i64 (.lit 32)))] [.hp 450 [448, 446, 444, 442, 440, 431] [.var 7] []] []) (.and (.e (.and (.or (.and (.eq (.var 452) (.lit (-1))) (.eq (.var 454) (.lit 0))) (.and (.le (.lit 0) (.var 452)) (.and (.le (.lit 0) (.var 453)) (.hby 453 (.var 452) (.var 453) (.ite (.lt (.var 454) (.lit 32)) (.var 454) (.lit 32)))))) (.and (.le (.lit 0) (.var 454)) (.le (.add (.lit 60) (.ite (.lt (.var 454) (.lit 32)) (.var 454) (.lit 32))) (.lit 125))))) (.and (.pre (.call 1 456 [.sv (.one (.hptr (.var 7) (.var 8))), .sv (.one (.int .u64 (.lit 2064)))] [.hp 452 [450, 448, 446, 444, 442, 440, 431] [.var 7] []] [])) (.ext (.call 1 456 [.sv (.one (.hptr (.var 7) (.var 8))), .sv (.one (.int .u64 (.lit 2064)))] [.hp 452 [450, 448, 446, 444, 442, 440, 431] [.var 7] []] []) (.and (.pre (.call 3 458 [.sv (.one (.hptr (.var 7) (.var 8))), .sv (.one (.int .i64 (.lit 32)))] [.hp 456 [452, 450, 448, 446, 444, 442, 440, 431] [.var 7] []] [])) (.ext (.call 3 458 [.sv (.one (.hptr (.var 7) (.var 8))), .sv (.one (.int .i64 (.lit 32)))] [.hp 456 [452, 450, 448, 446, 444, 442, 440, 431] [.var 7] []] []) (.and (.e (.and (.or (.and (.eq (.var 458) (.lit (-1))) (.eq (.var 460) (.lit 0))) (.and (.le (.lit 0) (.var 458)) (.and (.le (.lit 0) (.var 459)) (.hby 459 (.var 458) (.var 459) (.ite (.lt (.var 460) (.lit 32)) (.var 460) (.lit 32)))))) (.and (.le (.lit 0) (.var 460)) (.le (.add (.lit 93) (.ite (.lt (.var 460) (.lit 32)) (.var 460) (.lit 32))) (.lit 125))))) (.and (.pre (.call 4 462 [.sv (.one (.hptr (.var 7) (.var 8)))] [] [.hp 458 [456, 452, 450, 448, 446, 444, 442, 440, 431] [.var 7] []])) (.ext (.call 4 462 [.sv (.one (.hptr (.var 7) (.var 8)))] [] [.hp 458 [456, 452, 450, 448, 446, 444, 442, 440, 431] [.var 7] []]) (.and (.imp (.bvar 462) (.and (.pre (.call 5 463 [.sv (.agg parF)] [] [.hp 432 [] [.var 353] []])) (.ext (.call 5 463 [.sv (.agg parF)] [] [.hp 432 [] [.var 353] []]) (.and (.imp (.not (.bvar 463)) (.post [.ro 4 [.var 0] false, .dead, .dead, .hp 458 [456, 452, 450, 448, 446, 444, 442, 440, 431] [.var 7] [], .hp 14 [] [.var 13] [], .hp 24 [] [.var 23] [], .hp 432 [] [.var 353] [], .hp 453 [] [.var 452] [], .hp 459 [] [.var 458] []] (.tup [.agg parZ, .one (.int .i64 (.lit 2))]))) (.imp (.bvar 463) (.post [.ro 4 [.var 0] false, .dead, .dead, .hp 458 [456, 452, 450, 448, 446, 444, 442, 440, 431] [.var 7] [], .hp 14 [] [.var 13] [], .hp 24 [] [.var 23] [], .hp 432 [] [.var 353] [], .hp 453 [] [.var 452] [], .hp 459 [] [.var 458] []] (.tup [.agg parF, .one (.int .i64 (.lit 0))]))))))) (.imp (.not (.bvar 462)) (.post [.ro 4 [.var 0] false, .dead, .dead, .hp 458 [456, 452, 450, 448, 446, 444, 442, 440, 431] [.var 7] [], .hp 14 [] [.var 13] [], .hp 24 [] [.var 23] [], .hp 432 [] [.var 353] [], .hp 453 [] [.var 452] [], .hp 459 [] [.var 458] []] (.tup [.agg parZ, .one (.int .i64 (.lit 2))])))))))))))))))))))))))))))))))))))))))))))))))))))
noncomputable def epΓ : List Sx.Spec := [readPS, numS, flagS, rawS, overS, formS 65]
theorem epΓ_ok : ∀ t ∈ epΓ, t.OK Tryd.prog := fun t ht => by
  simp only [epΓ, List.mem_cons, List.mem_nil_iff, or_false] at ht
  rcases ht with rfl | rfl | rfl | rfl | rfl | rfl
  · exact readPS_ok
  · exact numS_ok
  · exact flagS_ok
  · exact rawS_ok
  · exact overS_ok
  · exact eFormS_ok
noncomputable def eParW : Walk Tryd.prog epΓ 89 where
  Λ := fun p => if decide (p.length = 14) && !(p.head? == some 99) then some ⟨0, [(35, TI .u64 (.var 430))], [(2, .blk 6 (ckCVs 300 hk2) 100), (3, .hp 431 [] [.var 7] []), (6, .hp 432 [] [.var 353] [])], 440⟩ else none
  args := [.sv (.one (.sl (.var 0) (.var 1) (.var 2) (.var 3)))]
  mem := [.ro 4 [.var 0] false]
  nv := 5
  nd := eParNd
  ok := by kernel_rfl
end Go.Proofs.YtomdimlnggpgbaaDoor
namespace Go.Proofs.YtomdimlnggpgbaaDoor
open Go Go.Sx Go.Pk
theorem rowOK_app : ∀ {a b : List Value} {ka kb : List Kd}, rowOK a ka → rowOK b kb → rowOK (a ++ b) (ka ++ kb)
  | [], _, [], _, _, h => h
  | _ :: _, _, _ :: _, _, h, h' => ⟨h.1, rowOK_app h.2 h'⟩
  | [], _, _ :: _, _, h, _ => False.elim h
  | _ :: _, _, [], _, h, _ => False.elim h
theorem rowOK_bys : ∀ {l : List Int} {n : Nat}, l.length = n → rowOK (bys l) (List.replicate n (.int .u8))
  | [], 0, _ => trivial
  | _ :: l, n + 1, h => ⟨rfl, rowOK_bys (l := l) (by simpa using h)⟩
  | [], _ + 1, h => by simp at h
  | _ :: _, 0, h => by simp at h
theorem hkd_eq : hkd = [.int .i64, .int .u64] ++ List.replicate 32 (.int .u8) ++ [.int .i64, .bool, .int .u64] ++ List.replicate 16 (.int .u8) ++ [.slice] ++ [.int .u64, .int .u64, .int .u64, .int .u64, .int .u64, .int .u64] ++ List.replicate 32 (.int .u8) ++ [.int .i64] ++ List.replicate 32 (.int .u8) := by kernel_rfl
theorem hdRow_ok (b : List Int) {u : Value} (hu : valIs (some u) .slice = true) : rowOK (hdRow b u) hkd := by
  rw [hkd_eq]
  unfold hdRow
  refine rowOK_app (rowOK_app (rowOK_app (rowOK_app (rowOK_app (rowOK_app (rowOK_app (rowOK_app ⟨rfl, rfl, trivial⟩ (rowOK_bys (padN_len _ _))) ⟨rfl, rfl, rfl, trivial⟩) (rowOK_bys (padN_len _ _))) ⟨hu, trivial⟩) ⟨rfl, rfl, rfl, rfl, rfl, rfl, trivial⟩) (rowOK_bys (padN_len _ _))) ⟨rfl, trivial⟩) (rowOK_bys (padN_len _ _))
theorem rng_bys {l : List Int} (h : bytes256 l) : ∀ v ∈ bys l, rngV v := by
  intro v hv
  obtain ⟨z, hz, rfl⟩ := List.mem_map.1 hv
  exact h z hz
theorem hdRow_rng {b : List Int} (hb : bytes256 b) {u : Value} (hu : rngV u) : ∀ v ∈ hdRow b u, rngV v := by
  have b0 : bytes256 (p0 b).l := hb
  have b1 : bytes256 (p1 b).l := num256 b0
  have b2 : bytes256 (p2 b).l := num256 b1
  have b3 : bytes256 (p3 b).l := raw256 b2
  have b4 : bytes256 (p4 b).l := num256 b3
  have b5 : bytes256 (p5 b).l := flag256 b4
  have b6 : bytes256 (p6 b).l := num256 b5
  have b7 : bytes256 (p7 b).l := raw256 b6
  have b8 : bytes256 (p8 b).l := num256 b7
  have d0 : bytes256 (k0 b).l := (toks256 _ _ b8).2
  have d6 : bytes256 (k6 b).l := num256 (num256 (num256 (num256 (num256 (num256 d0)))))
  have b16 : bytes256 (p16 b).l := num256 (raw256 d6)
  have U : ∀ {m : Int} {s : PS}, 0 ≤ m → m ≤ 1099511627776 → rngV (.int .u64 (vNum m s)) := fun {m s} h0 h1 => by
    have := vNum_in (s := s) h0
    exact ⟨this.1, by omega⟩
  have I : ∀ {m : Int} {s : PS}, 0 ≤ m → m ≤ 1099511627776 → rngV (.int .i64 (vNum m s)) := fun {m s} h0 h1 => by
    have := vNum_in (s := s) h0
    exact ⟨by omega, by omega⟩
  have y1 := rng_bys (pad256 (n := 32) (vRaw256 (n := 32) b2))
  have y2 := rng_bys (pad256 (n := 16) (vRaw256 (n := 16) b6))
  have y3 := rng_bys (pad256 (n := 32) (vRaw256 (n := 32) d6))
  have y4 := rng_bys (pad256 (n := 32) (vRaw256 (n := 32) b16))
  intro v hv
  unfold hdRow at hv
  simp only [List.mem_append, List.mem_cons, List.mem_nil_iff, or_false] at hv
  rcases hv with (((((((hv | hv) | hv) | hv) | hv) | hv) | hv) | hv) | hv
  · rcases hv with rfl | rfl
    · exact I (by omega) (by omega)
    · exact U (by omega) (by omega)
  · exact y1 v hv
  · rcases hv with rfl | rfl | rfl
    · exact I (by omega) (by omega)
    · trivial
    · exact U (by omega) (by omega)
  · exact y2 v hv
  · subst hv; exact hu
  · rcases hv with rfl | rfl | rfl | rfl | rfl | rfl <;> exact U (by omega) (by omega)
  · exact y3 v hv
  · subst hv; exact I (by omega) (by omega)
  · exact y4 v hv
theorem hd_split (b : List Int) : ∃ L B : List Value, L.length = 53 ∧ ∀ u, hdRow b u = L ++ u :: B := by
  refine ⟨[Value.int .i64 (vNum 6 (p0 b)), .int .u64 (vNum 1048576 (p1 b))] ++ bys (padN 32 (vRaw 32 (p2 b))) ++ [Value.int .i64 (vNum 255 (p3 b)), .bool (vFlag (p4 b)), .int .u64 (vNum 1099511627776 (p5 b))] ++ bys (padN 16 (vRaw 16 (p6 b))), [Value.int .u64 (vNum 1048576 (k0 b)), .int .u64 (vNum 1048576 (k1 b)), .int .u64 (vNum 1048576 (k2 b)), .int .u64 (vNum 1048576 (k3 b)), .int .u64 (vNum 1048576 (k4 b)), .int .u64 (vNum 1048576 (k5 b))] ++ bys (padN 32 (vRaw 32 (k6 b))) ++ [.int .i64 (vNum 2064 (p15 b))] ++ bys (padN 32 (vRaw 32 (p16 b))), by simp [bys, padN_len], fun u => ?_⟩
  unfold hdRow
  simp only [List.append_assoc, List.cons_append, List.nil_append]
theorem hd_is {b : List Int} (hb : bytes256 b) {R : Hl} {u : Value} (hu : valIs (some u) .slice = true) (hr : rngV u) (ht : RdRows R u tkd ((hT b).map bys)) : IsHd R (hdRow b u) (prH b) := by
  obtain ⟨L, B, hl, e⟩ := hd_split b
  have b7 : bytes256 (p8 b).l := num256 (raw256 (num256 (flag256 (num256 (raw256 (num256 (num256 (s := p0 b) hb)))))))
  refine ⟨hdRow_ok b hu, hdRow_rng hb hr, ?_, ?_, ?_, (toks256 _ _ b7).1⟩
  · show hdRow b (.bool false) = _
    rw [e, e, List.set_append_right _ _ (by omega), hl]; rfl
  · have : (hdRow b u).getD 53 (.bool false) = u := by
      rw [e, List.getD_eq_getElem?_getD, List.getElem?_append_right (by omega), hl]; rfl
    rw [this]; exact ht
  · show (pToks (hN b) (p8 b)).1.length ≤ _
    rw [toks_len]
    have := vNum_in (s := p7 b) (m := 8) (by omega)
    unfold hN; omega
end Go.Proofs.YtomdimlnggpgbaaDoor
namespace Go.Proofs.YtomdimlnggpgbaaDoor
open Go Go.Sx Go.Pk
def zrow : List Value := [.int .i64 0, .int .u64 0] ++ List.replicate 32 (.int .u8 0) ++ [.int .i64 0, .bool false, .int .u64 0] ++ List.replicate 16 (.int .u8 0) ++ [.slice none 0 0, .int .u64 0, .int .u64 0, .int .u64 0, .int .u64 0, .int .u64 0, .int .u64 0] ++ List.replicate 32 (.int .u8 0) ++ [.int .i64 0] ++ List.replicate 32 (.int .u8 0)
def parsed (b : List Int) (v : Value) (F : Hl) : Prop :=
  (∃ row h, v = .tuple #[.agg row.toArray, .int .i64 0] ∧ IsHd F row h ∧ h.Form ∧ hdB h = b) ∨ (v = .tuple #[.agg zrow.toArray, .int .i64 2] ∧ ∀ R row h, IsHd R row h → h.Form → hdB h ≠ b)
def parseS : Sx.Spec where
  fn := 89
  own := []
  rd := [0]
  res := [.agg hk2, .one (.int .i64)]
  pre := fun xs Hs Rs => ∃ u bs R, xs = [u] ∧ Rs = [R] ∧ RdW R u bs ∧ bytes256 bs ∧ bs.length ≤ 1000000
  post := fun xs Hs Rs v Hs' F => ∃ u bs R, xs = [u] ∧ Rs = [R] ∧ RdW R u bs ∧ parsed bs v F
theorem pg0 : epΓ[0]? = some readPS := rfl
theorem pg1 : epΓ[1]? = some numS := rfl
theorem pg2 : epΓ[2]? = some flagS := rfl
theorem pg3 : epΓ[3]? = some rawS := rfl
theorem pg4 : epΓ[4]? = some overS := rfl
theorem pg5 : epΓ[5]? = some (formS 65) := rfl
theorem pr0 : readPS.res = [.one .ptr] := rfl
theorem pr1 : numS.res = [.one (.int .u64)] := rfl
theorem pr2 : flagS.res = [.one .bool] := rfl
theorem pr3 : rawS.res = [.one .sl] := rfl
theorem pr4 : overS.res = [.one .bool] := rfl
theorem pr5 (f : FuncId) : (formS f).res = [.one .bool] := rfl
theorem pc0 (n : Nat) : (cpRoots n [Cp.one .ptr] ≠ []) = True := by simp [cpRoots, Cp.roots, Ck.root]
theorem pc1 (n : Nat) : (cpRoots n [Cp.one (.int .u64)] ≠ []) = False := by simp [cpRoots, Cp.roots, Ck.root]
def InP (H : Hl) (p : Value) (s : PS) : Prop := InAt H p s.l s.bad
def loopRow (b : List Int) (u : Value) : List Value :=
  [.int .i64 (vNum 6 (p0 b)), .int .u64 (vNum 1048576 (p1 b))] ++ bys (padN 32 (vRaw 32 (p2 b))) ++ [.int .i64 (vNum 255 (p3 b)), .bool (vFlag (p4 b)), .int .u64 (vNum 1099511627776 (p5 b))] ++ bys (padN 16 (vRaw 16 (p6 b))) ++ [u] ++ List.replicate 6 (.int .u64 0) ++ List.replicate 32 (.int .u8 0) ++ [.int .i64 0] ++ List.replicate 32 (.int .u8 0)
section
variable {q : Env} {n : Nat} {p : Value} {H : Hl} {s : PS} {K : Env → Prop} {A : Env → Hl → Prop}
theorem iNum {m : Int} (h : InP H p s) (k : ∀ q', Agree n q q' → InP (q'.h n) p (pNum m s) → q'.i n = vNum m s → K q') :
    numS.pre [p, .int .u64 m] [H] [] ∧ ∀ q', Agree n q q' → (∃ F, numS.post [p, .int .u64 m] [H] [] (.int .u64 (q'.i n)) [q'.h n] F ∧ A q' F) → K q' := by
  refine ⟨⟨_, m, H, s.l, s.bad, rfl, rfl, h⟩, fun q' g ⟨F, ⟨p', m', H1, bs, bad, H', e1, e2, hO, e3, hO', hv⟩, _⟩ => ?_⟩
  simp only [List.cons.injEq, Value.int.injEq, true_and, and_true] at e1 e2 e3
  obtain ⟨e1, em⟩ := e1
  subst e1 em e2
  obtain ⟨e4, e5⟩ := h.uniq hO
  subst e4 e5
  rw [← e3] at hO'
  simp only [Value.int.injEq, true_and] at hv
  exact k q' g hO' hv
theorem iFlag (h : InP H p s) (k : ∀ q', Agree n q q' → InP (q'.h n) p (pFlag s) → q'.b n = vFlag s → K q') :
    flagS.pre [p] [H] [] ∧ ∀ q', Agree n q q' → (∃ F, flagS.post [p] [H] [] (.bool (bev q' (.bvar n))) [q'.h n] F ∧ A q' F) → K q' := by
  refine ⟨⟨_, H, s.l, s.bad, rfl, rfl, h⟩, fun q' g ⟨F, ⟨p', H1, bs, bad, H', e1, e2, hO, e3, hO', hv⟩, _⟩ => ?_⟩
  simp only [List.cons.injEq, and_true] at e1 e2 e3
  subst e1 e2
  obtain ⟨e4, e5⟩ := h.uniq hO
  subst e4 e5
  rw [← e3] at hO'
  simp only [Value.bool.injEq, bev_bvar] at hv
  exact k q' g hO' hv
structure Took (F : Hl) (x y l c : Int) (raw : List Int) : Prop where
  rx : -1 ≤ x
  ry : 0 ≤ y
  len : l = raw.length
  rd : (x = -1 ∧ raw = []) ∨ (0 ≤ x ∧ ∀ j z, raw[j]? = some z → F.cell x.toNat (y.toNat + j) = some (.int .u8 z))
theorem iRaw {m : Int} (h : InP H p s) (k : ∀ q', Agree n q q' → InP (q'.h n) p (pRaw m s) → Took (q'.h (n + 1)) (q'.i n) (q'.i (n + 1)) (q'.i (n + 2)) (q'.i (n + 3)) (vRaw m s) → K q') :
    rawS.pre [p, .int .i64 m] [H] [] ∧ ∀ q', Agree n q q' → (∃ F, rawS.post [p, .int .i64 m] [H] [] (.slice (slP (q'.i n) (q'.i (n + 1))) (q'.i (n + 2)).toNat (q'.i (n + 3)).toNat) [q'.h n] F ∧ (True → q'.h (n + 1) = F) ∧ cpNorms n [.one .sl] q') → K q' := by
  refine ⟨⟨_, m, H, s.l, s.bad, rfl, rfl, h⟩, fun q' g ⟨F, ⟨p', m', H1, bs, bad, H', e1, e2, hO, e3, hO', hv⟩, hF, hn, _⟩ => ?_⟩
  simp only [List.cons.injEq, Value.int.injEq, true_and, and_true] at e1 e2 e3
  obtain ⟨e1, em⟩ := e1
  subst e1 em e2
  obtain ⟨e4, e5⟩ := h.uniq hO
  subst e4 e5
  rw [← e3] at hO'
  have hn : -1 ≤ q'.i n ∧ 0 ≤ q'.i (n + 1) ∧ 0 ≤ q'.i (n + 2) ∧ 0 ≤ q'.i (n + 3) := hn
  rw [← hF trivial] at hv
  obtain ⟨hl, hr⟩ := hv.rd.at hn.1 hn.2.1 hn.2.2.1
  exact k q' g hO' ⟨hn.1, hn.2.1, hl, hr⟩
end
theorem Took.must {F : Hl} {x y l c : Int} {raw : List Int} (h : Took F x y l c raw) {a w : Int} (hw : 0 ≤ w) (ha : a + w ≤ 125) : ((x = -1 ∧ l = 0 ∨ 0 ≤ x ∧ 0 ≤ y ∧ cellBytes F x.toNat y.toNat (if l < w then l else w).toNat = true) ∧ 0 ≤ l ∧ (a + if l < w then l else w) ≤ 125) := by
  have hl := h.len
  refine ⟨h.rd.imp (fun ⟨h1, h2⟩ => ⟨h1, by rw [hl, h2]; rfl⟩) fun ⟨h1, h2⟩ => ⟨h1, h.ry, ?_⟩, by omega, by split <;> omega⟩
  unfold cellBytes
  rw [List.all_eq_true]
  intro j hj
  have hj : j < (if l < w then l else w).toNat := List.mem_range.1 hj
  have hjr : j < raw.length := by split at hj <;> omega
  rw [h2 j _ (List.getElem?_eq_getElem hjr)]
  rfl
theorem Took.cell {F : Hl} {x y l c : Int} {raw : List Int} (h : Took F x y l c raw) {j : Nat} (hj : j < raw.length) : valI (F.cell x.toNat (y.toNat + j)) = raw.getD j 0 := by
  rcases h.rd with ⟨_, h2⟩ | ⟨_, h2⟩
  · rw [h2] at hj; cases hj
  · rw [h2 j _ (List.getElem?_eq_getElem hj), List.getD_eq_getElem?_getD, List.getElem?_eq_getElem hj]; rfl
theorem cpyC_ev {w : Int} {q : Env} {a n h m1 m2 m3 : Nat} {c : Int} {raw : List Int} {old : Nat → E} (ht : Took (q.h h) (q.i m1) (q.i m2) (q.i m3) c raw) (hw : w = (n : Int)) (ho : ∀ j, j < n → iev q (old j) = 0) :
    (cpyC a n (.ite (.lt (.var m3) (.lit w)) (.var m3) (.lit w)) h (.var m1) (.var m2) old).map (CV.ev q) = bys (padN n raw) := by
  subst hw
  unfold cpyC bys padN
  rw [List.map_map, List.map_map]
  refine List.map_congr_left fun j hj => ?_
  have hj := List.mem_range.1 hj
  have hl := ht.len
  show Value.int .u8 (iev q (.ite _ _ _)) = .int .u8 _
  congr 1
  simp only [iev_ite, bT_lt, iev_lit, iev_add, iev_var]
  by_cases hr : j < raw.length
  · rw [if_pos (by split <;> omega), iev_hI]
    exact ht.cell hr
  · rw [if_neg (by split <;> omega), ho j hj, List.getD_eq_getElem?_getD, List.getElem?_eq_none (by omega)]; rfl
theorem cpyD_ev {w : Int} {q : Env} {n h m1 m2 m3 : Nat} {c : Int} {raw : List Int} {old : Nat → E} (ht : Took (q.h h) (q.i m1) (q.i m2) (q.i m3) c raw) (hw : w = (n : Int)) (ho : ∀ j, j < n → iev q (old j) = 0) :
    (cpyD n (.ite (.lt (.var m3) (.lit w)) (.var m3) (.lit w)) h (.var m1) (.var m2) old).map (CV.ev q) = bys (padN n raw) := by
  subst hw
  unfold cpyD bys padN
  rw [List.map_map, List.map_map]
  refine List.map_congr_left fun j hj => ?_
  have hj := List.mem_range.1 hj
  have hl := ht.len
  show Value.int .u8 (iev q (.ite _ _ _)) = .int .u8 _
  congr 1
  simp only [iev_ite, bT_lt, iev_lit, iev_var]
  by_cases hr : j < raw.length
  · rw [if_pos (by split <;> omega), iev_hI]
    exact ht.cell hr
  · rw [if_neg (by split <;> omega), ho j hj, List.getD_eq_getElem?_getD, List.getElem?_eq_none (by omega)]; rfl
theorem loop_set (b : List Int) (u v : Value) : (loopRow b u).set 53 v = loopRow b v := by
  have e : ∀ u, loopRow b u = ([Value.int .i64 (vNum 6 (p0 b)), .int .u64 (vNum 1048576 (p1 b))] ++ bys (padN 32 (vRaw 32 (p2 b))) ++ [Value.int .i64 (vNum 255 (p3 b)), .bool (vFlag (p4 b)), .int .u64 (vNum 1099511627776 (p5 b))] ++ bys (padN 16 (vRaw 16 (p6 b)))) ++ u :: (List.replicate 6 (.int .u64 0) ++ List.replicate 32 (.int .u8 0) ++ [.int .i64 0] ++ List.replicate 32 (.int .u8 0)) := by
    intro u
    unfold loopRow
    simp only [List.append_assoc, List.cons_append, List.nil_append]
  have hl : ([Value.int .i64 (vNum 6 (p0 b)), .int .u64 (vNum 1048576 (p1 b))] ++ bys (padN 32 (vRaw 32 (p2 b))) ++ [Value.int .i64 (vNum 255 (p3 b)), .bool (vFlag (p4 b)), .int .u64 (vNum 1099511627776 (p5 b))] ++ bys (padN 16 (vRaw 16 (p6 b)))).length = 53 := by simp [bys, padN_len]
  rw [e u, e v, List.set_append_right _ _ (by omega), hl]
  rfl
theorem Took.must0 {F : Hl} {x y l c : Int} {raw : List Int} (h : Took F x y l c raw) {w : Int} (hw : 0 ≤ w) (ha : w ≤ 125) : ((x = -1 ∧ l = 0 ∨ 0 ≤ x ∧ 0 ≤ y ∧ cellBytes F x.toNat y.toNat (if l < w then l else w).toNat = true) ∧ 0 ≤ l ∧ (if l < w then l else w) ≤ w) := by
  obtain ⟨h1, h2, _⟩ := h.must (a := 0) hw (by omega)
  exact ⟨h1, h2, by split <;> omega⟩
theorem parM1_ev (q : Env) : parM1.map (CV.ev q) = (hrow q 300).set 53 (.slice (slP (q.i 446) 0) (q.i 355 + 1).toNat (q.i 447).toNat) := by kernel_rfl
theorem seg_sum (q : Env) : segI (hrow q 300) 60 32 = (List.range 32).map fun j => q.i (363 + j) := by kernel_rfl
theorem seg_code (q : Env) : segI (hrow q 300) 93 32 = (List.range 32).map fun j => q.i (396 + j) := by kernel_rfl
def loopL (b : List Int) : List Value := [Value.int .i64 (vNum 6 (p0 b)), .int .u64 (vNum 1048576 (p1 b))] ++ bys (padN 32 (vRaw 32 (p2 b))) ++ [.int .i64 (vNum 255 (p3 b)), .bool (vFlag (p4 b)), .int .u64 (vNum 1099511627776 (p5 b))] ++ bys (padN 16 (vRaw 16 (p6 b)))
theorem loopL_len (b : List Int) : (loopL b).length = 53 := by unfold loopL; simp [bys, padN_len]
theorem row_zero {q : Env} {b : List Int} {u : Value} (h : hrow q 300 = loopRow b u) : ∀ j, j < 32 → q.i (363 + j) = 0 ∧ q.i (396 + j) = 0 := by
  have a1 : segI (loopRow b u) 60 32 = List.replicate 32 0 := by
    have e : loopRow b u = (loopL b ++ [u] ++ List.replicate 6 (.int .u64 0)) ++ bys (List.replicate 32 0) ++ ([.int .i64 0] ++ List.replicate 32 (.int .u8 0)) := by
      unfold loopRow loopL; simp only [List.append_assoc]; rfl
    rw [e]; exact segI_mid (by simp [loopL_len]) (by simp)
  have a2 : segI (loopRow b u) 93 32 = List.replicate 32 0 := by
    have e : loopRow b u = (loopL b ++ [u] ++ List.replicate 6 (.int .u64 0) ++ List.replicate 32 (.int .u8 0) ++ [.int .i64 0]) ++ bys (List.replicate 32 0) ++ [] := by
      unfold loopRow loopL; simp only [List.append_assoc]; rfl
    rw [e]; exact segI_mid (by simp [loopL_len]) (by simp)
  rw [← h, seg_sum] at a1
  rw [← h, seg_code] at a2
  intro j hj
  have c1 := congrArg (fun l => l[j]?) a1
  have c2 := congrArg (fun l => l[j]?) a2
  simp only [List.getElem?_map, List.getElem?_range hj, Option.map_some, List.getElem?_replicate, if_pos hj, Option.some.injEq] at c1 c2
  exact ⟨c1, c2⟩
theorem par_lo (q : Env) : (ckCVs 300 ([Ck.int .i64, Ck.int .u64] ++ List.replicate 32 (Ck.int .u8) ++ [Ck.int .i64, Ck.bool, Ck.int .u64] ++ List.replicate 16 (Ck.int .u8) ++ [Ck.sl])).map (CV.ev q) = (hrow q 300).take 54 := by kernel_rfl
theorem loop_take (b : List Int) (u : Value) : (loopRow b u).take 54 = loopL b ++ [u] := by
  have e : loopRow b u = (loopL b ++ [u]) ++ (List.replicate 6 (.int .u64 0) ++ List.replicate 32 (.int .u8 0) ++ [.int .i64 0] ++ List.replicate 32 (.int .u8 0)) := by
    unfold loopRow loopL; simp only [List.append_assoc]
  have hl : (loopL b ++ [u]).length = 54 := by simp [loopL_len]
  rw [e, ← hl, List.take_left]
theorem zrow_ev (q : Env) : parZ.map (CV.ev q) = zrow := by kernel_rfl
theorem Took.ag {q q' : Env} {m h m1 m2 m3 m4 : Nat} {raw : List Int} (g : Agree m q q') (ht : Took (q.h h) (q.i m1) (q.i m2) (q.i m3) (q.i m4) raw) (h0 : h < m) (h1 : m1 < m) (h2 : m2 < m) (h3 : m3 < m) (h4 : m4 < m) : Took (q'.h h) (q'.i m1) (q'.i m2) (q'.i m3) (q'.i m4) raw := by
  rw [g.h h h0, g.i m1 h1, g.i m2 h2, g.i m3 h3, g.i m4 h4]; exact ht
theorem hk_norms {ρ : Env} (h : -1 ≤ ρ.i 53 ∧ 0 ≤ ρ.i 54 ∧ 0 ≤ ρ.i 55 ∧ 0 ≤ ρ.i 56) : ckNorms 0 hk2 ρ := ⟨trivial, trivial, trivial, trivial, trivial, trivial, trivial, trivial, trivial, trivial, trivial, trivial, trivial, trivial, trivial, trivial, trivial, trivial, trivial, trivial, trivial, trivial, trivial, trivial, trivial, trivial, trivial, trivial, trivial, trivial, trivial, trivial, trivial, trivial, trivial, trivial, trivial, trivial, trivial, trivial, trivial, trivial, trivial, trivial, trivial, trivial, trivial, trivial, trivial, trivial, trivial, trivial, trivial, h, trivial, trivial, trivial, trivial, trivial, trivial, trivial, trivial, trivial, trivial, trivial, trivial, trivial, trivial, trivial, trivial, trivial, trivial, trivial, trivial, trivial, trivial, trivial, trivial, trivial, trivial, trivial, trivial, trivial, trivial, trivial, trivial, trivial, trivial, trivial, trivial, trivial, trivial, trivial, trivial, trivial, trivial, trivial, trivial, trivial, trivial, trivial, trivial, trivial, trivial, trivial, trivial, trivial, trivial, trivial, trivial, trivial, trivial, trivial, trivial, trivial, trivial, trivial, trivial, trivial, trivial, trivial, trivial, trivial, trivial, trivial, trivial⟩
theorem zshape {v : Value} (hv : v = .tuple #[.agg zrow.toArray, .int .i64 2]) : ∃ ρ2, v = (cpTV 0 parseS.res).ev ρ2 ∧ cpNorms 0 parseS.res ρ2 := by
  subst hv
  exact ⟨⟨fun k => if k = 53 then -1 else if k = 128 then 2 else 0, fun _ => false, fun _ => .empty, fun _ => .tuple #[], fun _ => Hl.none⟩, by kernel_rfl, hk_norms ⟨Int.le_refl _, Int.le_refl _, Int.le_refl _, Int.le_refl _⟩, trivial, trivial⟩
def hdEnv (b : List Int) (x y l c : Int) : Env := ⟨fun k => if k < 53 then cI (hdRow b (.bool false)) k else if k = 53 then x else if k = 54 then y else if k = 55 then l else if k = 56 then c else if k < 128 then cI (hdRow b (.bool false)) (k - 3) else 0, fun k => cB (hdRow b (.bool false)) k, fun _ => .empty, fun _ => .tuple #[], fun _ => Hl.none⟩
theorem hdEnv_ev (b : List Int) (x y l c : Int) : (ckCVs 0 hk2).map (CV.ev (hdEnv b x y l c)) = hdRow b (.slice (slP x y) l.toNat c.toNat) := by kernel_rfl
open Classical in
theorem parseS_ok : parseS.OK Tryd.prog := by
  refine Spec.of_fn (Γ := epΓ) epΓ_ok ?_
  rintro xs Hs Rs hl1 hl2 ⟨u, b, R, rfl, rfl, hRd, hby, hlen⟩
  have e0 : Hs = [] := List.length_eq_zero_iff.1 hl1
  subst e0
  obtain ⟨x, y, c, rfl, hy, hR⟩ := id hRd
  refine ⟨eParW, envI [x, y, b.length, c] false [Hl.none, Hl.none, Hl.none, Hl.none, R], fun _ q => ∃ k : Nat, q.i 430 = k ∧ k ≤ hN b ∧ InP (q.h 431) (.pointer (slP (q.i 7) (q.i 8))) (pToks k (p8 b)).2 ∧ hrow q 300 = loopRow b (.slice (slP (q.i 353) (q.i 354)) (q.i 355).toNat (q.i 356).toNat) ∧ -1 ≤ q.i 353 ∧ q.i 354 = 0 ∧ q.i 355 = k ∧ 0 ≤ q.i 356 ∧ OwR (q.h 432) 97 tkd (.slice (slP (q.i 353) 0) (q.i 355).toNat (q.i 356).toNat) ((pToks k (p8 b)).1.map bys), fun _ q => (hN b - q.i 430).toNat, ?_, ⟨?_, ?_, ?_, ?_⟩, (fun _ h => nomatch h), ?_⟩
  · show [Value.slice (slP x y) ((b.length : Int)).toNat ((c : Int)).toNat] = _
    rw [Int.toNat_natCast, Int.toNat_natCast]
  · intro r hr ho; simp [eParW] at hr; subst hr; cases ho
  · intro r hr ho; simp [eParW] at hr; subst hr; exact ⟨R, by simp, Hl.le_refl _⟩
  · simp [eParW]
  · intro r hr; simp [eParW] at hr; subst hr; trivial
  · show Nd.holds _ _ _ eParNd
    generalize hρ : envI [x, y, b.length, c] false [Hl.none, Hl.none, Hl.none, Hl.none, R] = ρ
    have v0 : ρ.i 0 = x := by rw [← hρ]; rfl
    have v1 : ρ.i 1 = y := by rw [← hρ]; rfl
    have v2 : ρ.i 2 = b.length := by rw [← hρ]; rfl
    have v3 : ρ.i 3 = c := by rw [← hρ]; rfl
    have w4 : ρ.h 4 = R := by rw [← hρ]; rfl
    clear hρ
    unfold eParNd
    simp only [Nd.holds, X.pre, X.rel, X.n, Src.ok, Src.len, Src.vals, true_and, and_true, if_true, Nat.mul_one, Nat.add_zero, Nat.reduceAdd, List.length_cons, List.length_nil, bT_tt, bT_ff, bT_bvar, bT_not, bT_and, bT_or, bT_ite, bT_lt, bT_le, bT_eq, bT_beq, bT_seq, bT_hB, bT_his, bT_hby, bT_hism, bT_hks, iev_lit, iev_var, iev_add, iev_sub, iev_mul, iev_wrap, iev_ite, iev_hI, iev_hP, iev_hmlen, sev_ite, sev_slit, sev_sof, sev_svar, TV.ev, SV.ev, CV.ev, List.map_cons, List.map_nil, Res.hl, cpTV, Cp.sv, Ck.cv, cpSVs, Cp.len, Ck.len, newHs_zero, newHs_one, roots_ne, pg0, pr0, pg1, pr1, pg2, pr2, pg3, pr3, pg4, pr4, pg5, pr5, pc0, pc1, sc2, rcc0]
    intro q1 g1 _ q2 g2 _
    have G2 : Agree 5 ρ q2 := g1.trans (g2.mono (by omega))
    rw [G2.i 0 (by omega), G2.i 1 (by omega), G2.i 2 (by omega), G2.i 3 (by omega), G2.h 4 (by omega), v0, v1, v2, v3, w4, Int.toNat_natCast, Int.toNat_natCast]
    refine ⟨⟨_, b, R, rfl, rfl, hRd, hby, hlen⟩, fun q3 g3 ⟨F3, hp3, hF3, _⟩ => ?_⟩
    have h3 : InP (q3.h 7) (.pointer (slP (q3.i 7) (q3.i 8))) (p0 b) := by
      obtain ⟨u', b', R', e1, e2, hR', hO⟩ := hp3
      simp only [List.cons.injEq, and_true] at e1 e2
      subst e1 e2
      rw [hRd.uniq hR', hF3 trivial]; exact hO
    refine iNum h3 fun q4 g4 h4 v4' => ?_
    have h4 : InP (q4.h 9) _ (p1 b) := h4
    have v4' : q4.i 9 = vNum 6 (p0 b) := v4'
    rw [← g4.i 7 (by omega), ← g4.i 8 (by omega)] at h4
    refine iNum h4 fun q5 g5 h5 v5' => ?_
    have h5 : InP (q5.h 11) _ (p2 b) := h5
    have v5' : q5.i 11 = vNum 1048576 (p1 b) := v5'
    rw [← g5.i 7 (by omega), ← g5.i 8 (by omega)] at h5
    rw [← g5.i 9 (by omega)] at v4'
    refine iRaw h5 fun q6 g6 h6 t6 => ?_
    have h6 : InP (q6.h 13) _ (p3 b) := h6
    have t6 : Took (q6.h 14) (q6.i 13) (q6.i 14) (q6.i 15) (q6.i 16) (vRaw 32 (p2 b)) := t6
    rw [← g6.i 7 (by omega), ← g6.i 8 (by omega)] at h6
    rw [← g6.i 9 (by omega)] at v4'
    rw [← g6.i 11 (by omega)] at v5'
    refine ⟨t6.must (by omega) (by omega), ?_⟩
    refine iNum h6 fun q7 g7 h7 v7' => ?_
    have h7 : InP (q7.h 17) _ (p4 b) := h7
    have v7' : q7.i 17 = vNum 255 (p3 b) := v7'
    rw [← g7.i 7 (by omega), ← g7.i 8 (by omega)] at h7
    rw [← g7.i 9 (by omega)] at v4'
    rw [← g7.i 11 (by omega)] at v5'
    have t6 := t6.ag g7 (by omega) (by omega) (by omega) (by omega) (by omega)
    refine iFlag h7 fun q8 g8 h8 v8' => ?_
    have h8 : InP (q8.h 19) _ (p5 b) := h8
    have v8' : q8.b 19 = vFlag (p4 b) := v8'
    rw [← g8.i 7 (by omega), ← g8.i 8 (by omega)] at h8
    rw [← g8.i 9 (by omega)] at v4'
    rw [← g8.i 11 (by omega)] at v5'
    have t6 := t6.ag g8 (by omega) (by omega) (by omega) (by omega) (by omega)
    rw [← g8.i 17 (by omega)] at v7'
    refine iNum h8 fun q9 g9 h9 v9' => ?_
    have h9 : InP (q9.h 21) _ (p6 b) := h9
    have v9' : q9.i 21 = vNum 1099511627776 (p5 b) := v9'
    rw [← g9.i 7 (by omega), ← g9.i 8 (by omega)] at h9
    rw [← g9.i 9 (by omega)] at v4'
    rw [← g9.i 11 (by omega)] at v5'
    have t6 := t6.ag g9 (by omega) (by omega) (by omega) (by omega) (by omega)
    rw [← g9.i 17 (by omega)] at v7'
    rw [← g9.b 19 (by omega)] at v8'
    refine iRaw h9 fun q10 g10 h10 t10 => ?_
    have h10 : InP (q10.h 23) _ (p7 b) := h10
    have t10 : Took (q10.h 24) (q10.i 23) (q10.i 24) (q10.i 25) (q10.i 26) (vRaw 16 (p6 b)) := t10
    rw [← g10.i 7 (by omega), ← g10.i 8 (by omega)] at h10
    rw [← g10.i 9 (by omega)] at v4'
    rw [← g10.i 11 (by omega)] at v5'
    have t6 := t6.ag g10 (by omega) (by omega) (by omega) (by omega) (by omega)
    rw [← g10.i 17 (by omega)] at v7'
    rw [← g10.b 19 (by omega)] at v8'
    rw [← g10.i 21 (by omega)] at v9'
    refine ⟨t10.must (by omega) (by omega), ?_⟩
    refine iNum h10 fun q11 g11 h11 v11' => ?_
    have h11 : InP (q11.h 27) _ (p8 b) := h11
    have v11' : q11.i 27 = vNum 8 (p7 b) := v11'
    rw [← g11.i 7 (by omega), ← g11.i 8 (by omega)] at h11
    rw [← g11.i 9 (by omega)] at v4'
    rw [← g11.i 11 (by omega)] at v5'
    have t6 := t6.ag g11 (by omega) (by omega) (by omega) (by omega) (by omega)
    rw [← g11.i 17 (by omega)] at v7'
    rw [← g11.b 19 (by omega)] at v8'
    rw [← g11.i 21 (by omega)] at v9'
    have t10 := t10.ag g11 (by omega) (by omega) (by omega) (by omega) (by omega)
    have wi : ∀ {m : Int} {s : PS}, 0 ≤ m → m ≤ 9223372036854775807 → IntKind.i64.wrap (vNum m s) = vNum m s := fun {m s} h0 h1 => by have := vNum_in (s := s) h0; exact IntWalk.i64_in _ (by omega)
    have em : parM0.map (CV.ev q11) = loopRow b (.slice none 0 0) := by
      unfold parM0 loopRow
      simp only [List.map_append]
      rw [cpyC_ev (w := 32) (n := 32) (old := fun _ => .lit 0) t6 rfl (fun _ _ => rfl), cpyC_ev (w := 16) (n := 16) (old := fun _ => .lit 0) t10 rfl (fun _ _ => rfl)]
      have e1 : List.map (CV.ev q11) [.int .i64 (.wrap .i64 (.var 9)), .int .u64 (.var 11)] = [Value.int .i64 (vNum 6 (p0 b)), .int .u64 (vNum 1048576 (p1 b))] := by
        show [Value.int .i64 (IntKind.i64.wrap (q11.i 9)), .int .u64 (q11.i 11)] = _
        rw [v4', v5', wi (by omega) (by omega)]
      have e2 : List.map (CV.ev q11) [.int .i64 (.wrap .i64 (.var 17)), .bool (.bvar 19), .int .u64 (.var 21)] = [Value.int .i64 (vNum 255 (p3 b)), .bool (vFlag (p4 b)), .int .u64 (vNum 1099511627776 (p5 b))] := by
        show [Value.int .i64 (IntKind.i64.wrap (q11.i 17)), .bool (q11.b 19), .int .u64 (q11.i 21)] = _
        rw [v7', v8', v9', wi (by omega) (by omega)]
      rw [e1, e2]; rfl
    have hg : goodA 29 parA0 [(431, some 27), (432, none)] = true := by kernel_rfl
    have ag := assign_old (ρ := q11) hg
    have est : (SV.agg (ckCVs 300 hk2)).ev (assign q11 parA0 [(431, some 27), (432, none)]) = (SV.agg parM0).ev q11 := assign_ag (n0 := 29) hg (by kernel_rfl) (fun y hy => List.mem_append_right _ hy)
    have x0 : (assign q11 parA0 [(431, some 27), (432, none)]).i 430 = 0 := by kernel_rfl
    have x1 : (assign q11 parA0 [(431, some 27), (432, none)]).i 353 = -1 := by kernel_rfl
    have x2 : (assign q11 parA0 [(431, some 27), (432, none)]).i 354 = 0 := by kernel_rfl
    have x3 : (assign q11 parA0 [(431, some 27), (432, none)]).i 355 = 0 := by kernel_rfl
    have x4 : (assign q11 parA0 [(431, some 27), (432, none)]).i 356 = 0 := by kernel_rfl
    have x5 : (assign q11 parA0 [(431, some 27), (432, none)]).h 431 = q11.h 27 := by kernel_rfl
    have x6 : (assign q11 parA0 [(431, some 27), (432, none)]).h 432 = Hl.none := by kernel_rfl
    generalize assign q11 parA0 [(431, some 27), (432, none)] = qn at ag est x0 x1 x2 x3 x4 x5 x6 ⊢
    have est : hrow qn 300 = loopRow b (.slice none 0 0) := (List.toArray_inj (Value.agg.inj est)).trans em
    refine ⟨⟨0, x0, Nat.zero_le _, ?_, ?_, by omega, x2, x3, by omega, ?_⟩, fun q g ⟨k, ek, hk, hP, hrw, A0, y354, y355, C0, hO⟩ => ?_⟩
    · rw [x5, ag.i 7 (by omega), ag.i 8 (by omega)]; exact h11
    · rw [est, x1, x2, x3, x4]; rfl
    · rw [x1, x3, x4, x6]; exact OwR.nil _ _ _
    have hk8 : hN b ≤ 8 := by have := vNum_in (s := p7 b) (m := 8) (by omega); unfold hN; omega
    have v11'' : q.i 27 = hN b := by rw [g.i 27 (by omega), v11']; have := vNum_in (s := p7 b) (m := 8) (by omega); unfold hN; omega
    have hrl : (((pToks k (p8 b)).1.map bys).length : Int) = k := by rw [List.length_map, toks_len]
    refine ⟨fun hlt q20 g20 _ => ?_, fun hge => ?_⟩
    · rw [← g20.i 7 (by omega), ← g20.i 8 (by omega), ← g20.h 431 (by omega)] at hP
      refine iRaw hP fun q21 g21 h21 t21 => ?_
      have t21 : Took (q21.h 442) (q21.i 441) (q21.i 442) (q21.i 443) (q21.i 444) (vRaw 16 (pToks k (p8 b)).2) := t21
      refine ⟨t21.must0 (by omega) (by omega), fun q22 g22 _ => ?_⟩
      have t22 := t21.ag g22 (by omega) (by omega) (by omega) (by omega) (by omega)
      have G22 : Agree 440 q q22 := g20.trans ((g21.mono (by omega)).trans (g22.mono (by omega)))
      rw [G22.h 432 (by omega), G22.i 353 (by omega), G22.i 354 (by omega), G22.i 355 (by omega), G22.i 356 (by omega), y354, cpyD_ev (w := 16) (n := 16) (old := fun _ => .lit 0) t22 rfl (fun _ _ => rfl)]
      refine ⟨⟨⟨_, OwR.pre hO (by omega)⟩, by omega, by unfold maxLen; omega, by omega⟩, fun q23 g23 ⟨A1, C1, happ, _⟩ => ?_⟩
      have hO2 := OwR.app (row := bys (padN 16 (vRaw 16 (pToks k (p8 b)).2))) hO (by omega) (rowOK_tok (padN_len _ _)) happ
      have G23 : Agree 440 q q23 := G22.trans (g23.mono (by omega))
      have hg : goodA 29 parA1 [(431, some 441), (432, some 446)] = true := by kernel_rfl
      have ag := assign_old (ρ := q23) hg
      have est : (SV.agg (ckCVs 300 hk2)).ev (assign q23 parA1 [(431, some 441), (432, some 446)]) = (SV.agg parM1).ev q23 := assign_ag (n0 := 29) hg (by kernel_rfl) (fun y hy => List.mem_append_right _ hy)
      have x0 : (assign q23 parA1 [(431, some 441), (432, some 446)]).i 430 = IntKind.u64.wrap (q23.i 430 + 1) := by kernel_rfl
      have x1 : (assign q23 parA1 [(431, some 441), (432, some 446)]).i 353 = q23.i 446 := by kernel_rfl
      have x2 : (assign q23 parA1 [(431, some 441), (432, some 446)]).i 354 = 0 := by kernel_rfl
      have x3 : (assign q23 parA1 [(431, some 441), (432, some 446)]).i 355 = q23.i 355 + 1 := by kernel_rfl
      have x4 : (assign q23 parA1 [(431, some 441), (432, some 446)]).i 356 = q23.i 447 := by kernel_rfl
      have x5 : (assign q23 parA1 [(431, some 441), (432, some 446)]).h 431 = q23.h 441 := by kernel_rfl
      have x6 : (assign q23 parA1 [(431, some 441), (432, some 446)]).h 432 = q23.h 446 := by kernel_rfl
      generalize assign q23 parA1 [(431, some 441), (432, some 446)] = qn at ag est x0 x1 x2 x3 x4 x5 x6 ⊢
      have est : hrow qn 300 = parM1.map (CV.ev q23) := List.toArray_inj (Value.agg.inj est)
      have hr23 : hrow q23 300 = hrow q 300 := List.toArray_inj (Value.agg.inj (ev_ag (n := 300) (ks := hk2) G23 (Nat.le_of_ble_eq_true (by kernel_rfl))))
      rw [parM1_ev, hr23, hrw, loop_set] at est
      have e430 : IntKind.u64.wrap (q23.i 430 + 1) = ((k + 1 : Nat) : Int) := by rw [G23.i 430 (by omega), ek, wu64 (by omega) (by omega)]; omega
      have e355 : q23.i 355 + 1 = ((k + 1 : Nat) : Int) := by rw [G23.i 355 (by omega), y355]; omega
      rw [x0, x1, x2, x3, x4, x5, x6, e430, e355]
      refine ⟨⟨k + 1, rfl, by omega, ?_, ?_, A1, rfl, rfl, C1, ?_⟩, by omega⟩
      · rw [ag.i 7 (by omega), ag.i 8 (by omega), g23.i 7 (by omega), g23.i 8 (by omega), g22.i 7 (by omega), g22.i 8 (by omega), g23.h 441 (by omega), g22.h 441 (by omega), g21.i 7 (by omega), g21.i 8 (by omega)]
        exact h21
      · rw [est, e355]
      · show OwR _ _ _ _ (((pToks k (p8 b)).1 ++ [padN 16 (vRaw 16 (pToks k (p8 b)).2)]).map bys)
        rw [List.map_append, ← e355, G23.i 355 (by omega)]; exact hO2
    have hkN : k = hN b := by omega
    subst hkN
    have hP : InP (q.h 431) (.pointer (slP (q.i 7) (q.i 8))) (k0 b) := hP
    obtain ⟨q30, e30⟩ : ∃ q30, q30 = q := ⟨_, rfl⟩
    subst e30
    have h30 := hP
    have Gt30 : Agree 440 q30 q30 := Agree.refl _ _
    refine iNum h30 fun q31 g31 h31 v31' => ?_
    have h31 : InP (q31.h 440) _ (k1 b) := h31
    have v31' : q31.i 440 = vNum 1048576 (k0 b) := v31'
    have Gt31 : Agree 440 q30 q31 := Gt30.trans (g31.mono (by omega))
    rw [← g31.i 7 (by omega), ← g31.i 8 (by omega)] at h31
    refine iNum h31 fun q32 g32 h32 v32' => ?_
    have h32 : InP (q32.h 442) _ (k2 b) := h32
    have v32' : q32.i 442 = vNum 1048576 (k1 b) := v32'
    have Gt32 : Agree 440 q30 q32 := Gt31.trans (g32.mono (by omega))
    rw [← g32.i 7 (by omega), ← g32.i 8 (by omega)] at h32
    rw [← g32.i 440 (by omega)] at v31'
    refine iNum h32 fun q33 g33 h33 v33' => ?_
    have h33 : InP (q33.h 444) _ (k3 b) := h33
    have v33' : q33.i 444 = vNum 1048576 (k2 b) := v33'
    have Gt33 : Agree 440 q30 q33 := Gt32.trans (g33.mono (by omega))
    rw [← g33.i 7 (by omega), ← g33.i 8 (by omega)] at h33
    rw [← g33.i 440 (by omega)] at v31'
    rw [← g33.i 442 (by omega)] at v32'
    refine iNum h33 fun q34 g34 h34 v34' => ?_
    have h34 : InP (q34.h 446) _ (k4 b) := h34
    have v34' : q34.i 446 = vNum 1048576 (k3 b) := v34'
    have Gt34 : Agree 440 q30 q34 := Gt33.trans (g34.mono (by omega))
    rw [← g34.i 7 (by omega), ← g34.i 8 (by omega)] at h34
    rw [← g34.i 440 (by omega)] at v31'
    rw [← g34.i 442 (by omega)] at v32'
    rw [← g34.i 444 (by omega)] at v33'
    refine iNum h34 fun q35 g35 h35 v35' => ?_
    have h35 : InP (q35.h 448) _ (k5 b) := h35
    have v35' : q35.i 448 = vNum 1048576 (k4 b) := v35'
    have Gt35 : Agree 440 q30 q35 := Gt34.trans (g35.mono (by omega))
    rw [← g35.i 7 (by omega), ← g35.i 8 (by omega)] at h35
    rw [← g35.i 440 (by omega)] at v31'
    rw [← g35.i 442 (by omega)] at v32'
    rw [← g35.i 444 (by omega)] at v33'
    rw [← g35.i 446 (by omega)] at v34'
    refine iNum h35 fun q36 g36 h36 v36' => ?_
    have h36 : InP (q36.h 450) _ (k6 b) := h36
    have v36' : q36.i 450 = vNum 1048576 (k5 b) := v36'
    have Gt36 : Agree 440 q30 q36 := Gt35.trans (g36.mono (by omega))
    rw [← g36.i 7 (by omega), ← g36.i 8 (by omega)] at h36
    rw [← g36.i 440 (by omega)] at v31'
    rw [← g36.i 442 (by omega)] at v32'
    rw [← g36.i 444 (by omega)] at v33'
    rw [← g36.i 446 (by omega)] at v34'
    rw [← g36.i 448 (by omega)] at v35'
    refine iRaw h36 fun q37 g37 h37 t37 => ?_
    have h37 : InP (q37.h 452) _ (p15 b) := h37
    have t37 : Took (q37.h 453) (q37.i 452) (q37.i 453) (q37.i 454) (q37.i 455) (vRaw 32 (k6 b)) := t37
    have Gt37 : Agree 440 q30 q37 := Gt36.trans (g37.mono (by omega))
    rw [← g37.i 7 (by omega), ← g37.i 8 (by omega)] at h37
    rw [← g37.i 440 (by omega)] at v31'
    rw [← g37.i 442 (by omega)] at v32'
    rw [← g37.i 444 (by omega)] at v33'
    rw [← g37.i 446 (by omega)] at v34'
    rw [← g37.i 448 (by omega)] at v35'
    rw [← g37.i 450 (by omega)] at v36'
    refine ⟨t37.must (by omega) (by omega), ?_⟩
    refine iNum h37 fun q38 g38 h38 v38' => ?_
    have h38 : InP (q38.h 456) _ (p16 b) := h38
    have v38' : q38.i 456 = vNum 2064 (p15 b) := v38'
    have Gt38 : Agree 440 q30 q38 := Gt37.trans (g38.mono (by omega))
    rw [← g38.i 7 (by omega), ← g38.i 8 (by omega)] at h38
    rw [← g38.i 440 (by omega)] at v31'
    rw [← g38.i 442 (by omega)] at v32'
    rw [← g38.i 444 (by omega)] at v33'
    rw [← g38.i 446 (by omega)] at v34'
    rw [← g38.i 448 (by omega)] at v35'
    rw [← g38.i 450 (by omega)] at v36'
    have t37 := t37.ag g38 (by omega) (by omega) (by omega) (by omega) (by omega)
    refine iRaw h38 fun q39 g39 h39 t39 => ?_
    have h39 : InP (q39.h 458) _ (p17 b) := h39
    have t39 : Took (q39.h 459) (q39.i 458) (q39.i 459) (q39.i 460) (q39.i 461) (vRaw 32 (p16 b)) := t39
    have Gt39 : Agree 440 q30 q39 := Gt38.trans (g39.mono (by omega))
    rw [← g39.i 7 (by omega), ← g39.i 8 (by omega)] at h39
    rw [← g39.i 440 (by omega)] at v31'
    rw [← g39.i 442 (by omega)] at v32'
    rw [← g39.i 444 (by omega)] at v33'
    rw [← g39.i 446 (by omega)] at v34'
    rw [← g39.i 448 (by omega)] at v35'
    rw [← g39.i 450 (by omega)] at v36'
    have t37 := t37.ag g39 (by omega) (by omega) (by omega) (by omega) (by omega)
    rw [← g39.i 456 (by omega)] at v38'
    refine ⟨t39.must (by omega) (by omega), ?_⟩
    refine ⟨⟨_, _, (p17 b).l, (p17 b).bad, rfl, rfl, h39⟩, fun q40 g40 ⟨F, hp, _⟩ => ?_⟩
    have hov : q40.b 462 = (!(p17 b).bad && decide ((p17 b).l = [])) := by
      obtain ⟨p', R', bs', bad', e1, e2, hO', hv⟩ := hp
      simp only [List.cons.injEq, and_true] at e1 e2
      subst e1 e2
      obtain ⟨e3, e4⟩ := h39.uniq hO'
      subst e3 e4
      simpa [bev_bvar] using hv
    have Gt40 : Agree 440 q30 q40 := Gt39.trans (g40.mono (by omega))
    rw [← g40.i 440 (by omega)] at v31'
    rw [← g40.i 442 (by omega)] at v32'
    rw [← g40.i 444 (by omega)] at v33'
    rw [← g40.i 446 (by omega)] at v34'
    rw [← g40.i 448 (by omega)] at v35'
    rw [← g40.i 450 (by omega)] at v36'
    have t37 := t37.ag g40 (by omega) (by omega) (by omega) (by omega) (by omega)
    rw [← g40.i 456 (by omega)] at v38'
    have t39 := t39.ag g40 (by omega) (by omega) (by omega) (by omega) (by omega)
    have hr40 : hrow q40 300 = hrow q30 300 := List.toArray_inj (Value.agg.inj (ev_ag (n := 300) (ks := hk2) Gt40 (Nat.le_of_ble_eq_true (by kernel_rfl))))
    rw [← hr40] at hrw
    have hz := row_zero hrw
    rw [← Gt40.i 353 (by omega), ← Gt40.i 354 (by omega), ← Gt40.i 355 (by omega), ← Gt40.i 356 (by omega)] at hrw
    rw [← Gt40.i 353 (by omega)] at A0
    rw [← Gt40.i 354 (by omega)] at y354
    rw [← Gt40.i 355 (by omega)] at y355
    rw [← Gt40.i 356 (by omega)] at C0
    rw [← Gt40.h 432 (by omega), ← Gt40.i 353 (by omega), ← Gt40.i 355 (by omega), ← Gt40.i 356 (by omega)] at hO
    have efr : parF.map (CV.ev q40) = hdRow b (.slice (slP (q40.i 353) (q40.i 354)) (q40.i 355).toNat (q40.i 356).toNat) := by
      unfold parF
      simp only [List.map_append]
      rw [par_lo, hrw, loop_take, cpyC_ev (w := 32) (n := 32) (old := fun j => .var (363 + j)) t37 rfl (fun j hj => (hz j hj).1), cpyC_ev (w := 32) (n := 32) (old := fun j => .var (396 + j)) t39 rfl (fun j hj => (hz j hj).2)]
      have e1 : List.map (CV.ev q40) [.int .u64 (.var 440), .int .u64 (.var 442), .int .u64 (.var 444), .int .u64 (.var 446), .int .u64 (.var 448), .int .u64 (.var 450)] = [Value.int .u64 (vNum 1048576 (k0 b)), .int .u64 (vNum 1048576 (k1 b)), .int .u64 (vNum 1048576 (k2 b)), .int .u64 (vNum 1048576 (k3 b)), .int .u64 (vNum 1048576 (k4 b)), .int .u64 (vNum 1048576 (k5 b))] := by
        show [Value.int .u64 (q40.i 440), .int .u64 (q40.i 442), .int .u64 (q40.i 444), .int .u64 (q40.i 446), .int .u64 (q40.i 448), .int .u64 (q40.i 450)] = _
        rw [v31', v32', v33', v34', v35', v36']
      have e2 : List.map (CV.ev q40) [.int .i64 (.wrap .i64 (.var 456))] = [Value.int .i64 (vNum 2064 (p15 b))] := by
        show [Value.int .i64 (IntKind.i64.wrap (q40.i 456))] = _
        rw [v38', wi (by omega) (by omega)]
      rw [e1, e2]
      unfold loopL hdRow
      simp only [List.append_assoc]
    have his : IsHd (q40.h 432) (hdRow b (.slice (slP (q40.i 353) (q40.i 354)) (q40.i 355).toNat (q40.i 356).toNat)) (prH b) := by
      refine hd_is hby rfl trivial ?_
      rw [y354]; exact hO.rd
    have zp : ∀ {qq : Env} {mem : Mem}, (∀ R row h, IsHd R row h → h.Form → hdB h ≠ b) → postOf parseS [.slice (slP x y) b.length c] [] [R] qq mem (.tup [.agg parZ, .one (.int .i64 (.lit 2))]) := by
      intro qq mem hno _
      have ev : (TV.tup [SV.agg parZ, SV.one (CV.int IntKind.i64 (E.lit 2))]).ev qq = .tuple #[.agg zrow.toArray, .int .i64 2] := by
        show Value.tuple #[.agg (parZ.map (CV.ev qq)).toArray, .int .i64 2] = _
        rw [zrow_ev]
      exact ⟨[], [], rfl, rfl, zshape ev, _, b, R, rfl, rfl, hRd, Or.inr ⟨ev, hno⟩⟩
    have no1 : ¬ (q40.b 462 = true ∧ (prH b).Form) → ∀ R row h, IsHd R row h → h.Form → hdB h ≠ b := by
      rintro hn R' row' h' hx' hf' rfl
      obtain ⟨l1, l2, l3⟩ := lawB hx' hf'
      exact hn ⟨by rw [hov, l1, l2]; rfl, l3⟩
    rw [efr]
    refine ⟨fun hv => ⟨⟨_, _, _, rfl, rfl, his⟩, fun q41 g41 ⟨F4, hp4, _⟩ => ?_⟩, fun hv => zp (no1 fun hh => hv hh.1)⟩
    have hfv := form_res his hp4
    have hfv : q41.b 463 = decide (prH b).Form := by simpa [bev_bvar] using hfv
    rw [hfv, decide_eq_true_eq]
    refine ⟨fun hf => zp (no1 fun hh => hf hh.2), fun hf _ => ?_⟩
    have hbl : hdB (prH b) = b := by
      rw [hov] at hv
      simp only [Bool.and_eq_true, Bool.not_eq_true', decide_eq_true_eq] at hv
      exact lawA hby hv.1 hv.2
    have hag : parF.map (CV.ev q41) = parF.map (CV.ev q40) := CV.agreeL g41 parF (by kernel_rfl)
    rw [← g41.i 353 (by omega), ← g41.i 354 (by omega), ← g41.i 355 (by omega), ← g41.i 356 (by omega)] at efr his
    rw [← g41.h 432 (by omega)] at his
    have ev : (TV.tup [SV.agg parF, SV.one (CV.int IntKind.i64 (E.lit 0))]).ev q41 = .tuple #[.agg (hdRow b (.slice (slP (q41.i 353) (q41.i 354)) (q41.i 355).toNat (q41.i 356).toNat)).toArray, .int .i64 0] := by
      show Value.tuple #[.agg (parF.map (CV.ev q41)).toArray, .int .i64 0] = _
      rw [hag, efr]
    refine ⟨[], [6], rfl, rfl, ⟨hdEnv b (q41.i 353) (q41.i 354) (q41.i 355) (q41.i 356), ?_, hk_norms ⟨by show -1 ≤ q41.i 353; rw [g41.i 353 (by omega)]; exact A0, by show 0 ≤ q41.i 354; rw [g41.i 354 (by omega)]; omega, by show 0 ≤ q41.i 355; rw [g41.i 355 (by omega)]; omega, by show 0 ≤ q41.i 356; rw [g41.i 356 (by omega)]; exact C0⟩, trivial, trivial⟩, _, b, R, rfl, rfl, hRd, Or.inl ⟨_, prH b, ev, ?_, hf, hbl⟩⟩
    · rw [ev, ← hdEnv_ev]; kernel_rfl
    · show IsHd (hls [q41.h 432]) _ _
      rw [hls_one]; exact his
end Go.Proofs.YtomdimlnggpgbaaDoor
namespace Go.Proofs.YtomdimlnggpgbaaDoor
open Go Go.Sx Go.Pk
theorem ag_row {m : Nat} {ρ ρ' : Env} (g : Agree m ρ ρ') {a : Nat} {ks : List Ck} (h : a + ckLen ks ≤ m) : (ckCVs a ks).map (CV.ev ρ') = (ckCVs a ks).map (CV.ev ρ) := List.toArray_inj (Value.agg.inj (ev_ag (n := a) (ks := ks) g h))
theorem ckLen_hk : ckLen hk2 = 128 := by kernel_rfl
def hz : Hd := ⟨zrow.set 53 (.bool false), []⟩
theorem zrow_ok : rowOK zrow hkd := by
  have e : zrow = (ckCVs 0 hk2).map (CV.ev ⟨fun k => if k = 53 then -1 else 0, fun _ => false, fun _ => .empty, fun _ => .tuple #[], fun _ => Hl.none⟩) := by kernel_rfl
  rw [e]
  exact row_of hk2 0 (hk_norms ⟨Int.le_refl _, Int.le_refl _, Int.le_refl _, Int.le_refl _⟩)
theorem zrow_mem : ∀ v ∈ zrow, v = .int .i64 0 ∨ v = .int .u64 0 ∨ v = .int .u8 0 ∨ v = .bool false ∨ v = .slice none 0 0 := by
  intro v hv
  simp only [zrow, List.mem_append, List.mem_cons, List.mem_replicate, List.mem_nil_iff, or_false] at hv
  rcases hv with (((((((hv | hv) | hv) | hv) | hv) | hv) | hv) | hv)
  all_goals grind
theorem hz_is (R : Hl) : IsHd R zrow hz := by
  refine ⟨zrow_ok, fun v hv => ?_, rfl, ?_, by unfold hz; exact ⟨by simp, fun t h => by cases h⟩⟩
  · rcases zrow_mem v hv with rfl | rfl | rfl | rfl | rfl <;> simp [rngV, i64in]
  · show RdRows R (zrow.getD 53 (.bool false)) tkd []
    rw [show zrow.getD 53 (.bool false) = .slice none 0 0 by kernel_rfl]
    exact (OwR.nil R 0 tkd).rd
def pk2 : List Ck := hk2 ++ [.sl]
def pkd : List Kd := pk2.map kdOf
def noV : Value := .bool false
structure Pc where
  h : Hd
  b : List Int
structure IsPc (R1 R2 : Hl) (row : List Value) (p : Pc) : Prop where
  ok : rowOK row pkd
  hd : IsHd R1 (row.take 125) p.h
  body : RdW R2 (row.getD 125 noV) p.b
  byte : bytes256 p.b
  len : p.b.length ≤ 1000000
theorem rdW_mono {R R' : Hl} {v : Value} {bs : List Int} (h : RdW R v bs) (hl : R.le R') : RdW R' v bs := by
  obtain ⟨x, y, c, e, hy, h⟩ := h
  refine ⟨x, y, c, e, hy, h.imp id fun ⟨hx, h⟩ => ⟨hx, fun j z hz => ?_⟩⟩
  have hc := h j z hz
  unfold Hl.cell at hc ⊢
  cases hR : R x.toNat with
  | none => rw [hR] at hc; cases hc
  | some o => rw [hl _ _ hR]; rw [hR] at hc; exact hc
theorem IsPc.mono {R1 R2 R1' R2' : Hl} {row : List Value} {p : Pc} (x : IsPc R1 R2 row p) (h1 : R1.le R1') (h2 : R2.le R2') : IsPc R1' R2' row p := ⟨x.ok, x.hd.mono h1, rdW_mono x.body h2, x.byte, x.len⟩
theorem IsPc.uniq {R1 R2 : Hl} {row : List Value} {p p' : Pc} (x : IsPc R1 R2 row p) (y : IsPc R1 R2 row p') : p = p' := by
  obtain ⟨h, b⟩ := p
  obtain ⟨h', b'⟩ := p'
  have e1 : h = h' := x.hd.uniq y.hd
  have e2 : b = b' := x.body.uniq y.body
  rw [e1, e2]
theorem ck_h {q : Env} (g : Nat → Hl) : ∀ (ks : List Ck) (n : Nat), (ckCVs n ks).map (CV.ev q) = (ckCVs n ks).map (CV.ev ⟨q.i, q.b, q.s, q.v, g⟩)
  | [], _ => rfl
  | k :: ks, n => by
    show (k.cv n).ev q :: _ = (k.cv n).ev _ :: _
    rw [ck_h g ks]
    congr 1
    cases k <;> rfl
theorem nm_h {q : Env} (g : Nat → Hl) : ∀ (ks : List Ck) (n : Nat), ckNormsW n ks q → ckNormsW n ks ⟨q.i, q.b, q.s, q.v, g⟩
  | [], _, _ => trivial
  | k :: ks, n, h => ⟨(by have h1 := h.1; cases k <;> exact h1), nm_h g ks _ h.2⟩
def hsAt (hs : List (Nat × Hl)) (k : Nat) : Hl := match hs.find? (fun p => p.1 == k) with
  | some p => p.2
  | none => Hl.none
theorem row_env {ks : List Ck} {row : List Value} (hs : List (Nat × Hl)) (h : rowOK row (ks.map kdOf)) : ∃ q : Env, row = (ckCVs 0 ks).map (CV.ev q) ∧ ckNormsW 0 ks q ∧ ∀ k, q.h k = hsAt hs k := by
  obtain ⟨q, _, hn, e⟩ := row_rep ks 0 row ⟨fun _ => 0, fun _ => false, fun _ => .empty, fun _ => .tuple #[], fun _ => Hl.none⟩ h
  exact ⟨⟨q.i, q.b, q.s, q.v, hsAt hs⟩, by rw [← ck_h (hsAt hs)]; exact e.symm, nm_h _ _ _ hn, fun _ => rfl⟩
theorem norms_at {q : Env} : ∀ (a b : List Ck) (n : Nat), ckNormsW n (a ++ b) q → ckNormsW (n + ckLen a) b q := by
  intro a
  induction a with
  | nil => intro b n h; simpa [ckLen] using h
  | cons k a ih =>
    intro b n h
    have := ih b (n + k.len) h.2
    rw [show n + k.len + ckLen a = n + ckLen (k :: a) by simp [ckLen]; omega] at this
    exact this
theorem bvT {q : Env} {n : Nat} {P : Prop} (h : Value.bool (bev q (.bvar n)) = .bool true ↔ P) : (q.b n = true) = P := by
  rw [← propext h, bev_bvar]; simp
open Classical in
theorem formd_res {f : FuncId} {row : List Value} {R : Hl} {h : Hd} {Hs K : List Hl} {F : Hl} {q : Env} {n : Nat} (hx : IsHd R row h) (hp : (formS f).post [.agg row.toArray] Hs [R] (.bool (bev q (.bvar n))) K F) : (q.b n = true) = h.Form := by
  have := form_res hx hp
  exact bvT (by rw [this]; simp)
theorem rowOK_take : ∀ {n : Nat} {l : List Value} {ks : List Kd}, rowOK l ks → rowOK (l.take n) (ks.take n)
  | 0, _, _, _ => trivial
  | _ + 1, [], [], _ => trivial
  | n + 1, _ :: _, _ :: _, h => ⟨h.1, rowOK_take (n := n) h.2⟩
  | _ + 1, [], _ :: _, h => False.elim h
  | _ + 1, _ :: _, [], h => False.elim h
end Go.Proofs.YtomdimlnggpgbaaDoor
namespace Go.Proofs.YtomdimlnggpgbaaDoor
open Go Go.Sx Go.Pk
structure OP (H : Hl) (x : Int) (bs : List Int) (m : Nat) : Prop where
  out : OutAt H (.pointer (slP x 0)) bs false
  len : bs.length ≤ m
section
variable {q : Env} {n a m : Nat} {H R : Hl} {bs : List Int} {A : Env → Hl → Prop} {K : Env → Prop} {v : Value}
theorem numP {z : Int} (h : OP H (q.i a) bs m) (hm : m ≤ 800000) (ha : a < n) (hz : 0 ≤ z ∧ z < 18446744073709551616) (k : ∀ q', Agree n q q' → OP (q'.h n) (q'.i a) (bs ++ numB z.toNat) (m + 10) → K q') :
    oNumS.pre [.pointer (slP (q.i a) 0), .int .u64 z] [H] [] ∧ ∀ q', Agree n q q' → (∃ F, oNumS.post [.pointer (slP (q.i a) 0), .int .u64 z] [H] [] v [q'.h n] F ∧ A q' F) → K q' :=
  numStep h.out hz (Nat.le_trans h.len (by omega)) fun q' g hO => k q' g ⟨by rw [g.i a ha]; exact hO, by
    have := h.len
    have := lenB (z := z.toNat) (by omega)
    rw [List.length_append]; omega⟩
theorem flagP {b : Bool} (h : OP H (q.i a) bs m) (hm : m ≤ 800000) (ha : a < n) (k : ∀ q', Agree n q q' → OP (q'.h n) (q'.i a) (bs ++ flagB b) (m + 1) → K q') :
    oFlagS.pre [.pointer (slP (q.i a) 0), .bool b] [H] [] ∧ ∀ q', Agree n q q' → (∃ F, oFlagS.post [.pointer (slP (q.i a) 0), .bool b] [H] [] v [q'.h n] F ∧ A q' F) → K q' :=
  flagStep h.out (Nat.le_trans h.len (by omega)) fun q' g hO => k q' g ⟨by rw [g.i a ha]; exact hO, by
    have := h.len
    rw [List.length_append]
    show _ + 1 ≤ _
    omega⟩
theorem text_post {p u v : Value} {H R F : Hl} {K : List Hl} {bs b2 : List Int} {lg : Bool} (h : OutAt H p bs lg) (h2 : RdW R u b2) (hp : oTextS.post [p, u] [H] [R] v K F) : ∃ H', K = [H'] ∧ OutAt H' p (outText bs lg b2).1 (outText bs lg b2).2 := by
  obtain ⟨p', z', Hx, Rx, bs', lg', b2', H', hx, hH, hR, hO, hB, hK, hO'⟩ := hp
  have hx : p = p' ∧ u = z' := by simpa using hx
  obtain ⟨e1, e2⟩ := hx
  have hH : H = Hx := by simpa using hH
  have hR : R = Rx := by simpa using hR
  subst e1 e2 hH hR
  obtain ⟨e1, e2⟩ := h.uniq hO
  subst e1 e2
  have e := h2.uniq hB
  subst e
  exact ⟨H', hK, hO'⟩
theorem textP {u : Value} {b2 : List Int} {m2 : Nat} (h : OP H (q.i a) bs m) (hm : m ≤ 800000) (ha : a < n) (h2 : RdW R u b2) (hl2 : b2.length ≤ m2) (hm2 : m2 ≤ 4096) (k : ∀ q', Agree n q q' → OP (q'.h n) (q'.i a) (bs ++ textBytes b2) (m + 10 + m2) → K q') :
    oTextS.pre [.pointer (slP (q.i a) 0), u] [H] [R] ∧ ∀ q', Agree n q q' → (∃ F, oTextS.post [.pointer (slP (q.i a) 0), u] [H] [R] v [q'.h n] F ∧ A q' F) → K q' := by
  refine ⟨⟨_, _, H, R, bs, false, b2, rfl, rfl, rfl, h.out, h2, Nat.le_trans h.len hm, by omega⟩, fun q' g ⟨F, hp, _⟩ => k q' g ?_⟩
  obtain ⟨H', hK, hO⟩ := text_post h.out h2 hp
  have hK : q'.h n = H' := by simpa using hK
  have e : outText bs false b2 = (bs ++ textBytes b2, false) := by unfold outText; rw [if_neg (by omega)]
  rw [e, ← hK] at hO
  refine ⟨by rw [g.i a ha]; exact hO, ?_⟩
  have := h.len
  have := lenB (z := b2.length) (by omega)
  unfold textBytes
  rw [List.length_append, List.length_append]; omega
end
def us (l : List Int) : List Value := l.map (Value.int .u64)
def vecB (l : List Int) : List Int := (l.map fun z => numB z.toNat).flatten
def u64s (l : List Int) : Prop := ∀ z ∈ l, 0 ≤ z ∧ z < 18446744073709551616
theorem us_inj {a b : List Int} (h : us a = us b) : a = b := by
  have := congrArg (List.map fun v => valI (some v)) h
  simpa [us, List.map_map, Function.comp_def, valI] using this
def putVecS : Sx.Spec where
  fn := 61
  own := [.arg 0]
  rd := []
  res := []
  pre := fun xs Hs Rs => ∃ p H bs vs, xs = [p, .agg (us vs).toArray] ∧ Hs = [H] ∧ OutAt H p bs false ∧ vs.length = 6 ∧ u64s vs ∧ bs.length ≤ 700000
  post := fun xs Hs Rs v Hs' F => ∃ p H bs vs H', xs = [p, .agg (us vs).toArray] ∧ Hs = [H] ∧ OutAt H p bs false ∧ Hs' = [H'] ∧ OutAt H' p (bs ++ vecB vs) false
def putVecNd : Nd := .ext (.alloc 8) (.and (.pre (.call 0 9 [.sv (.one (.hptr (.var 0) (.lit 0))), .sv (.one (.int .u64 (.var 1)))] [.hp 7 [] [.var 0] []] [])) (.ext (.call 0 9 [.sv (.one (.hptr (.var 0) (.lit 0))), .sv (.one (.int .u64 (.var 1)))] [.hp 7 [] [.var 0] []] []) (.and (.pre (.call 0 11 [.sv (.one (.hptr (.var 0) (.lit 0))), .sv (.one (.int .u64 (.var 2)))] [.hp 9 [7] [.var 0] []] [])) (.ext (.call 0 11 [.sv (.one (.hptr (.var 0) (.lit 0))), .sv (.one (.int .u64 (.var 2)))] [.hp 9 [7] [.var 0] []] []) (.and (.pre (.call 0 13 [.sv (.one (.hptr (.var 0) (.lit 0))), .sv (.one (.int .u64 (.var 3)))] [.hp 11 [9, 7] [.var 0] []] [])) (.ext (.call 0 13 [.sv (.one (.hptr (.var 0) (.lit 0))), .sv (.one (.int .u64 (.var 3)))] [.hp 11 [9, 7] [.var 0] []] []) (.and (.pre (.call 0 15 [.sv (.one (.hptr (.var 0) (.lit 0))), .sv (.one (.int .u64 (.var 4)))] [.hp 13 [11, 9, 7] [.var 0] []] [])) (.ext (.call 0 15 [.sv (.one (.hptr (.var 0) (.lit 0))), .sv (.one (.int .u64 (.var 4)))] [.hp 13 [11, 9, 7] [.var 0] []] []) (.and (.pre (.call 0 17 [.sv (.one (.hptr (.var 0) (.lit 0))), .sv (.one (.int .u64 (.var 5)))] [.hp 15 [13, 11, 9, 7] [.var 0] []] [])) (.ext (.call 0 17 [.sv (.one (.hptr (.var 0) (.lit 0))), .sv (.one (.int .u64 (.var 5)))] [.hp 15 [13, 11, 9, 7] [.var 0] []] []) (.and (.pre (.call 0 19 [.sv (.one (.hptr (.var 0) (.lit 0))), .sv (.one (.int .u64 (.var 6)))] [.hp 17 [15, 13, 11, 9, 7] [.var 0] []] [])) (.ext (.call 0 19 [.sv (.one (.hptr (.var 0) (.lit 0))), .sv (.one (.int .u64 (.var 6)))] [.hp 17 [15, 13, 11, 9, 7] [.var 0] []] []) (.post [.hp 19 [17, 15, 13, 11, 9, 7] [.var 0] [], .dead] (.tup []))))))))))))))
noncomputable def apΓ : List Sx.Spec := [oNumS, oRawS, oFlagS, oTextS, oEndS, bytesS 96]
theorem apΓ_ok : ∀ t ∈ apΓ, t.OK Tryd.prog := fun t ht => by
  simp only [apΓ, List.mem_cons, List.mem_nil_iff, or_false] at ht
  rcases ht with rfl | rfl | rfl | rfl | rfl | rfl
  · exact oNumS_ok
  · exact oRawS_ok
  · exact oFlagS_ok
  · exact oTextS_ok
  · exact oEndS_ok
  · exact eBytS_ok
noncomputable def putVecW : Walk Tryd.prog apΓ 61 where
  Λ := noLoops
  args := [TP (.var 0) (.lit 0), .sv (.agg (ckCVs 1 (List.replicate 6 (.int .u64))))]
  mem := [.hp 7 [] [.var 0] []]
  nv := 8
  nd := putVecNd
  ok := by kernel_rfl
theorem apg0 : apΓ[0]? = some oNumS := rfl
theorem apg3 : apΓ[3]? = some oTextS := rfl
theorem apg5 : apΓ[5]? = some (bytesS 96) := rfl
theorem apr0 : oNumS.res = [] := rfl
theorem apr3 : oTextS.res = [] := rfl
theorem apr5 (f : FuncId) : (bytesS f).res = [.one .sl] := rfl
theorem putVecS_ok : putVecS.OK Tryd.prog := by
  refine Spec.of_fn (Γ := apΓ) apΓ_ok ?_
  rintro xs Hs Rs hl1 hl2 ⟨p, H, bs, vs, rfl, rfl, hO, h6, hu, hb⟩
  have e1 : Rs = [] := List.length_eq_zero_iff.1 hl2
  subst e1
  match vs, h6 with
  | [v1, v2, v3, v4, v5, v6], _ =>
  obtain ⟨a, _, _, rfl, _⟩ := id hO.whole
  have hv : ∀ z ∈ [v1, v2, v3, v4, v5, v6], 0 ≤ z ∧ z < 18446744073709551616 := hu
  simp only [List.mem_cons, List.mem_nil_iff, or_false, forall_eq_or_imp, forall_eq] at hv
  obtain ⟨u1, u2, u3, u4, u5, u6⟩ := hv
  refine ⟨putVecW, envI [(a : Int), v1, v2, v3, v4, v5, v6] false [Hl.none, Hl.none, Hl.none, Hl.none, Hl.none, Hl.none, Hl.none, H], fun _ _ => True, fun _ _ => 0, ?_, ⟨?_, ?_, ?_, ?_⟩, (fun _ h => nomatch h), ?_⟩
  · show [Value.pointer (slP (a : Int) 0), _] = _
    rw [ptr0]; rfl
  · intro r hr ho; simp [putVecW] at hr; subst hr; exact ⟨H, by simp, Hl.le_refl _⟩
  · intro r hr ho; simp [putVecW] at hr; subst hr; cases ho
  · simp [putVecW]
  · intro r hr; simp [putVecW] at hr; subst hr; trivial
  · show Nd.holds _ _ _ putVecNd
    generalize hρ : envI [(a : Int), v1, v2, v3, v4, v5, v6] false [Hl.none, Hl.none, Hl.none, Hl.none, Hl.none, Hl.none, Hl.none, H] = ρ
    have w0 : ρ.i 0 = a := by rw [← hρ]; rfl
    have w1 : ρ.i 1 = v1 := by rw [← hρ]; rfl
    have w2 : ρ.i 2 = v2 := by rw [← hρ]; rfl
    have w3 : ρ.i 3 = v3 := by rw [← hρ]; rfl
    have w4 : ρ.i 4 = v4 := by rw [← hρ]; rfl
    have w5 : ρ.i 5 = v5 := by rw [← hρ]; rfl
    have w6 : ρ.i 6 = v6 := by rw [← hρ]; rfl
    have w7 : ρ.h 7 = H := by rw [← hρ]; rfl
    clear hρ
    unfold putVecNd
    simp only [Nd.holds, X.pre, X.rel, X.n, Src.ok, Src.len, Src.vals, true_and, and_true, if_true, Nat.mul_one, Nat.add_zero, Nat.reduceAdd, List.length_cons, List.length_nil, bT_tt, bT_ff, bT_bvar, bT_not, bT_and, bT_or, bT_ite, bT_lt, bT_le, bT_eq, bT_beq, bT_seq, bT_hB, bT_his, bT_hby, bT_hism, bT_hks, iev_lit, iev_var, iev_add, iev_sub, iev_mul, iev_wrap, iev_ite, iev_hI, iev_hP, iev_hmlen, sev_ite, sev_slit, sev_sof, sev_svar, TV.ev, SV.ev, CV.ev, List.map_cons, List.map_nil, Res.hl, cpTV, Cp.sv, Ck.cv, cpSVs, Cp.len, Ck.len, newHs_zero, newHs_one, roots_ne, apg0, apr0]
    intro q0 g0 _
    have G0 : Agree 8 ρ q0 := g0
    have P0 : OP H (q0.i 0) bs 700000 := ⟨by rw [G0.i 0 (by omega), w0, ptr0]; exact hO, hb⟩
    rw [G0.i 1 (by omega), w1, G0.h 7 (by omega), w7]
    refine numP P0 (by omega) (by omega) u1 fun q1 g1 P1 => ?_
    have G1 : Agree 8 ρ q1 := G0.trans (g1.mono (by omega))
    rw [G1.i 2 (by omega), w2]
    refine numP P1 (by omega) (by omega) u2 fun q2 g2 P2 => ?_
    have G2 : Agree 8 ρ q2 := G1.trans (g2.mono (by omega))
    rw [G2.i 3 (by omega), w3]
    refine numP P2 (by omega) (by omega) u3 fun q3 g3 P3 => ?_
    have G3 : Agree 8 ρ q3 := G2.trans (g3.mono (by omega))
    rw [G3.i 4 (by omega), w4]
    refine numP P3 (by omega) (by omega) u4 fun q4 g4 P4 => ?_
    have G4 : Agree 8 ρ q4 := G3.trans (g4.mono (by omega))
    rw [G4.i 5 (by omega), w5]
    refine numP P4 (by omega) (by omega) u5 fun q5 g5 P5 => ?_
    have G5 : Agree 8 ρ q5 := G4.trans (g5.mono (by omega))
    rw [G5.i 6 (by omega), w6]
    refine numP P5 (by omega) (by omega) u6 fun q6 g6 P6 => ?_
    have G6 : Agree 8 ρ q6 := G5.trans (g6.mono (by omega))
    intro _
    refine ⟨[[0]], [], rfl, rfl, ⟨⟨fun _ => 0, fun _ => false, fun _ => .empty, fun _ => .tuple #[], fun _ => Hl.none⟩, rfl, trivial⟩, _, H, bs, _, q6.h 19, rfl, rfl, hO, ?_, ?_⟩
    · show [hls [q6.h 19]] = _
      rw [hls_one]
    · have := P6.out
      rw [G6.i 0 (by omega), w0, ptr0] at this
      have e : vecB [v1, v2, v3, v4, v5, v6] = numB v1.toNat ++ (numB v2.toNat ++ (numB v3.toNat ++ (numB v4.toNat ++ (numB v5.toNat ++ (numB v6.toNat ++ []))))) := rfl
      rw [e, List.append_nil]
      simpa only [List.append_assoc] using this
open Classical in
noncomputable def pcB (p : Pc) : List Int := textBytes (bytesOfH p.h) ++ textBytes p.b
noncomputable def putPcS : Sx.Spec where
  fn := 62
  own := [.arg 0]
  rd := [1001053, 1001125]
  res := []
  pre := fun xs Hs Rs => ∃ p row H R1 R2 bs c, xs = [p, .agg row.toArray] ∧ Hs = [H] ∧ Rs = [R1, R2] ∧ OutAt H p bs false ∧ IsPc R1 R2 row c ∧ c.b.length ≤ 4096 ∧ bs.length ≤ 700000
  post := fun xs Hs Rs v Hs' F => ∃ p row H R1 R2 bs c H', xs = [p, .agg row.toArray] ∧ Hs = [H] ∧ Rs = [R1, R2] ∧ OutAt H p bs false ∧ IsPc R1 R2 row c ∧ Hs' = [H'] ∧ OutAt H' p (bs ++ pcB c) false
def putPcNd : Nd := .ext (.alloc 136) (.and (.pre (.call 5 137 [.sv (.agg (ckCVs 0 hk2))] [] [.ro 134 [.var 53] false])) (.ext (.call 5 137 [.sv (.agg (ckCVs 0 hk2))] [] [.ro 134 [.var 53] false]) (.and (.pre (.call 3 141 [.sv (.one (.hptr (.var 132) (.lit 0))), .sv (.one (.sl (.var 137) (.var 138) (.var 139) (.var 140)))] [.hp 133 [] [.var 132] []] [.hp 137 [] [.var 137] []])) (.ext (.call 3 141 [.sv (.one (.hptr (.var 132) (.lit 0))), .sv (.one (.sl (.var 137) (.var 138) (.var 139) (.var 140)))] [.hp 133 [] [.var 132] []] [.hp 137 [] [.var 137] []]) (.and (.pre (.call 3 143 [.sv (.one (.hptr (.var 132) (.lit 0))), .sv (.one (.sl (.var 128) (.var 129) (.var 130) (.var 131)))] [.hp 141 [133] [.var 132] []] [.ro 135 [.var 128] false])) (.ext (.call 3 143 [.sv (.one (.hptr (.var 132) (.lit 0))), .sv (.one (.sl (.var 128) (.var 129) (.var 130) (.var 131)))] [.hp 141 [133] [.var 132] []] [.ro 135 [.var 128] false]) (.post [.hp 143 [141, 133] [.var 132] [], .ro 134 [.var 53] false, .ro 135 [.var 128] false, .dead, .hp 137 [] [.var 137] []] (.tup []))))))))
noncomputable def putPcW : Walk Tryd.prog apΓ 62 where
  Λ := noLoops
  args := [TP (.var 132) (.lit 0), .sv (.agg (ckCVs 0 pk2))]
  mem := [.hp 133 [] [.var 132] [], .ro 134 [.var 53] false, .ro 135 [.var 128] false]
  nv := 136
  nd := putPcNd
  ok := by kernel_rfl
theorem bytesOf_len {R : Hl} {row : List Value} {h : Hd} (x : IsHd R row h) : (bytesOfH h).length ≤ 932 := by
  unfold bytesOfH
  split
  · rename_i hf
    have := core_len x hf.2.1
    unfold hdB
    rw [List.length_append, segI_len]; omega
  · simp
theorem putPcS_ok : putPcS.OK Tryd.prog := by
  refine Spec.of_fn (Γ := apΓ) apΓ_ok ?_
  rintro xs Hs Rs hl1 hl2 ⟨p, row, H, R1, R2, bs, c, rfl, rfl, rfl, hO, hx, hcl, hb⟩
  obtain ⟨a, _, _, rfl, _⟩ := id hO.whole
  obtain ⟨ρ0, rfl, hn, hh⟩ := row_env [(133, H), (134, R1), (135, R2)] hx.ok
  have hHd := hx.hd
  have hBd := hx.body
  rw [show ((ckCVs 0 pk2).map (CV.ev ρ0)).take 125 = hrow ρ0 0 by kernel_rfl] at hHd
  rw [show ((ckCVs 0 pk2).map (CV.ev ρ0)).getD 125 noV = .slice (slP (ρ0.i 128) (ρ0.i 129)) (ρ0.i 130).toNat (ρ0.i 131).toNat by kernel_rfl] at hBd
  obtain ⟨ρ, hρ⟩ : ∃ ρ : Env, ρ = ρ0.setI 132 a := ⟨_, rfl⟩
  have g : Agree 132 ρ0 ρ := by rw [hρ]; exact agree_setI ρ0 132 _ (by omega)
  have eh : ρ.h = ρ0.h := by rw [hρ]; rfl
  have w132 : ρ.i 132 = a := by rw [hρ]; simp [Env.setI]
  have w133 : ρ.h 133 = H := by rw [eh]; exact hh 133
  have w134 : ρ.h 134 = R1 := by rw [eh]; exact hh 134
  have w135 : ρ.h 135 = R2 := by rw [eh]; exact hh 135
  clear hρ
  have er : (ckCVs 0 pk2).map (CV.ev ρ) = (ckCVs 0 pk2).map (CV.ev ρ0) := ag_row g (by rw [show ckLen pk2 = 132 by kernel_rfl]; omega)
  rw [← g.i 128 (by omega), ← g.i 129 (by omega), ← g.i 130 (by omega), ← g.i 131 (by omega)] at hBd
  rw [← hrow_ag (g.mono (by omega))] at hHd
  have hx0 := hx
  rw [← er] at hx ⊢
  refine ⟨putPcW, ρ, fun _ _ => True, fun _ _ => 0, ?_, ⟨?_, ?_, ?_, ?_⟩, (fun _ h => nomatch h), ?_⟩
  · show [Value.pointer (slP (ρ.i 132) 0), _] = _
    rw [w132, ptr0]; rfl
  · intro r hr ho; simp [putPcW] at hr
    rcases hr with rfl | rfl | rfl
    · exact ⟨H, by simp, by show (ρ.h 133).le H; rw [w133]; exact Hl.le_refl _⟩
    · cases ho
    · cases ho
  · intro r hr ho; simp [putPcW] at hr
    rcases hr with rfl | rfl | rfl
    · cases ho
    · exact ⟨R1, by simp, by show (ρ.h 134).le R1; rw [w134]; exact Hl.le_refl _⟩
    · exact ⟨R2, by simp, by show (ρ.h 135).le R2; rw [w135]; exact Hl.le_refl _⟩
  · simp [putPcW, Res.own]
  · intro r hr; simp [putPcW] at hr; rcases hr with rfl | rfl | rfl <;> trivial
  · show Nd.holds _ _ _ putPcNd
    unfold putPcNd
    simp only [Nd.holds, X.pre, X.rel, X.n, Src.ok, Src.len, Src.vals, true_and, and_true, if_true, Nat.mul_one, Nat.add_zero, Nat.reduceAdd, List.length_cons, List.length_nil, bT_tt, bT_ff, bT_bvar, bT_not, bT_and, bT_or, bT_ite, bT_lt, bT_le, bT_eq, bT_beq, bT_seq, bT_hB, bT_his, bT_hby, bT_hism, bT_hks, iev_lit, iev_var, iev_add, iev_sub, iev_mul, iev_wrap, iev_ite, iev_hI, iev_hP, iev_hmlen, sev_ite, sev_slit, sev_sof, sev_svar, TV.ev, SV.ev, CV.ev, List.map_cons, List.map_nil, Res.hl, cpTV, Cp.sv, Ck.cv, cpSVs, Cp.len, Ck.len, newHs_zero, newHs_one, roots_ne, apg3, apr3, apg5, apr5, rcc0]
    intro q0 g0 _
    have G0 : Agree 136 ρ q0 := g0
    rw [show (ckCVs 0 hk2).map (CV.ev q0) = hrow ρ 0 from hrow_ag (G0.mono (by omega)), G0.h 134 (by omega), w134]
    refine ⟨⟨_, R1, c.h, rfl, rfl, hHd⟩, fun q1 g1 ⟨F, hp, hF, hnm⟩ => ?_⟩
    have hB := byt_res hHd hp
    rw [← hF trivial] at hB
    have G1 : Agree 136 ρ q1 := G0.trans (g1.mono (by omega))
    have P1 : OP H (q1.i 132) bs 700000 := ⟨by rw [G1.i 132 (by omega), w132, ptr0]; exact hO, hb⟩
    rw [G1.h 133 (by omega), w133]
    refine textP P1 (by omega) (by omega) hB.rd.w (bytesOf_len hHd) (by omega) fun q2 g2 P2 => ?_
    have G2 : Agree 136 ρ q2 := G1.trans (g2.mono (by omega))
    rw [G2.h 135 (by omega), w135, G2.i 128 (by omega), G2.i 129 (by omega), G2.i 130 (by omega), G2.i 131 (by omega)]
    refine textP P2 (by omega) (by omega) hBd hcl (by omega) fun q3 g3 P3 => ?_
    have G3 : Agree 136 ρ q3 := G2.trans (g3.mono (by omega))
    intro _
    refine ⟨[[0]], [], rfl, rfl, ⟨⟨fun _ => 0, fun _ => false, fun _ => .empty, fun _ => .tuple #[], fun _ => Hl.none⟩, rfl, trivial⟩, _, _, H, R1, R2, bs, c, q3.h 143, rfl, rfl, rfl, hO, hx, ?_, ?_⟩
    · show [hls [q3.h 143]] = _
      rw [hls_one]
    · have := P3.out
      rw [G3.i 132 (by omega), w132, ptr0, List.append_assoc] at this
      exact this
section
variable {q : Env} {n a m : Nat} {H R1 R2 : Hl} {bs : List Int} {A : Env → Hl → Prop} {K : Env → Prop} {v : Value}
theorem abr3 : oFlagS.res = [] := rfl
theorem abr5 : putPcS.res = [] := rfl
theorem abr6 : putVecS.res = [] := rfl
theorem vec_len {vs : List Int} (h6 : vs.length = 6) (hu : u64s vs) : (vecB vs).length ≤ 60 := by
  match vs, h6 with
  | [v1, v2, v3, v4, v5, v6], _ =>
  have hv : ∀ z ∈ [v1, v2, v3, v4, v5, v6], 0 ≤ z ∧ z < 18446744073709551616 := hu
  simp only [List.mem_cons, List.mem_nil_iff, or_false, forall_eq_or_imp, forall_eq] at hv
  obtain ⟨u1, u2, u3, u4, u5, u6⟩ := hv
  have e : vecB [v1, v2, v3, v4, v5, v6] = numB v1.toNat ++ (numB v2.toNat ++ (numB v3.toNat ++ (numB v4.toNat ++ (numB v5.toNat ++ (numB v6.toNat ++ []))))) := rfl
  have a1 := lenB (z := v1.toNat) (by omega)
  have a2 := lenB (z := v2.toNat) (by omega)
  have a3 := lenB (z := v3.toNat) (by omega)
  have a4 := lenB (z := v4.toNat) (by omega)
  have a5 := lenB (z := v5.toNat) (by omega)
  have a6 := lenB (z := v6.toNat) (by omega)
  rw [e]
  simp only [List.length_append, List.length_nil]; omega
theorem vecP {vs : List Int} (h : OP H (q.i a) bs m) (hm : m ≤ 700000) (ha : a < n) (h6 : vs.length = 6) (hu : u64s vs) (k : ∀ q', Agree n q q' → OP (q'.h n) (q'.i a) (bs ++ vecB vs) (m + 60) → K q') :
    putVecS.pre [.pointer (slP (q.i a) 0), .agg (us vs).toArray] [H] [] ∧ ∀ q', Agree n q q' → (∃ F, putVecS.post [.pointer (slP (q.i a) 0), .agg (us vs).toArray] [H] [] v [q'.h n] F ∧ A q' F) → K q' := by
  refine ⟨⟨_, H, bs, vs, rfl, rfl, h.out, h6, hu, Nat.le_trans h.len hm⟩, fun q' g ⟨F, ⟨p', H1, bs', vs', H', e1, e2, hO, e3, hO'⟩, _⟩ => k q' g ?_⟩
  simp only [List.cons.injEq, Value.agg.injEq, and_true] at e1 e2 e3
  obtain ⟨e1, e4⟩ := e1
  obtain rfl := us_inj (List.toArray_inj e4)
  subst e1 e2
  obtain ⟨rfl, _⟩ := h.out.uniq hO
  refine ⟨?_, ?_⟩
  · rw [g.i a ha, e3]; exact hO'
  · have := h.len
    have := vec_len h6 hu
    rw [List.length_append]; omega
theorem pcB_len {row : List Value} {c : Pc} (hx : IsPc R1 R2 row c) (hc : c.b.length ≤ 4096) : (pcB c).length ≤ 5048 := by
  unfold pcB textBytes
  have a1 := bytesOf_len hx.hd
  have a2 := lenB (z := (bytesOfH c.h).length) (by omega)
  have a3 := lenB (z := c.b.length) (by omega)
  simp only [List.length_append]; omega
theorem pcP {row : List Value} {c : Pc} (h : OP H (q.i a) bs m) (hm : m ≤ 700000) (ha : a < n) (hx : IsPc R1 R2 row c) (hc : c.b.length ≤ 4096) (k : ∀ q', Agree n q q' → OP (q'.h n) (q'.i a) (bs ++ pcB c) (m + 5048) → K q') :
    putPcS.pre [.pointer (slP (q.i a) 0), .agg row.toArray] [H] [R1, R2] ∧ ∀ q', Agree n q q' → (∃ F, putPcS.post [.pointer (slP (q.i a) 0), .agg row.toArray] [H] [R1, R2] v [q'.h n] F ∧ A q' F) → K q' := by
  refine ⟨⟨_, row, H, R1, R2, bs, c, rfl, rfl, rfl, h.out, hx, hc, Nat.le_trans h.len hm⟩, fun q' g ⟨F, ⟨p', row', H1, R1', R2', bs', c', H', e1, e2, e3, hO, hx', e4, hO'⟩, _⟩ => k q' g ?_⟩
  simp only [List.cons.injEq, Value.agg.injEq, and_true] at e1 e2 e3 e4
  obtain ⟨e1, e5⟩ := e1
  obtain rfl := List.toArray_inj e5
  obtain ⟨rfl, rfl⟩ := e3
  subst e1 e2
  obtain ⟨rfl, _⟩ := h.out.uniq hO
  obtain rfl := hx.uniq hx'
  refine ⟨?_, ?_⟩
  · rw [g.i a ha, e4]; exact hO'
  · have := h.len
    have := pcB_len hx hc
    rw [List.length_append]; omega
theorem OP.to {q' : Env} {n : Nat} (h : OP H (q.i a) bs m) (g : Agree n q q') (ha : a < n) : OP H (q'.i a) bs m := ⟨by rw [g.i a ha]; exact h.out, h.len⟩
theorem OP.upto {x : Int} {m' : Nat} (h : OP H x bs m) (hm : m ≤ m') : OP H x bs m' := ⟨h.out, Nat.le_trans h.len hm⟩
theorem OP.new {a : Nat} (h : 0 ≤ q.i a) : OP (Hl.one (q.i a).toNat (.cells #[.slice none 0 0, .bool false] 124 (0, 0))) (q.i a) [] 0 := ⟨by rw [slP_pos h]; exact OutAt.new _, Nat.le_refl _⟩
end
theorem end_res {p v n : Value} {R F : Hl} {bs : List Int} {lg : Bool} {K : List Hl} (h : OutAt R p bs lg) (hp : oEndS.post [p] [] [R] (.tuple #[v, n]) K F) : OwB F 5 v (endR bs lg).1 ∧ n = .int .i64 (endR bs lg).2 := by
  obtain ⟨p', R', bs', lg', u, e1, e2, hO, hv, hw⟩ := hp
  simp only [List.cons.injEq, and_true] at e1 e2
  subst e1 e2
  obtain ⟨e1, e2⟩ := h.uniq hO
  subst e1 e2
  simp only [Value.tuple.injEq, Array.mk.injEq, List.cons.injEq, and_true] at hv
  rw [hv.1]; exact ⟨hw, hv.2⟩
end Go.Proofs.YtomdimlnggpgbaaDoor
namespace Go.Proofs.YtomdimlnggpgbaaDoor
open Go Go.Sx Go.Pk
structure BP (A : Hl) (x y l c : Int) (bs : List Int) (m : Nat) : Prop where
  own : OwB A 5 (.slice (slP x y) l.toNat c.toNat) bs
  l : l = bs.length
  rx : -1 ≤ x
  ry : 0 ≤ y
  rc : 0 ≤ c
  len : bs.length ≤ m
theorem BP.nil : BP Hl.none (-1) 0 0 0 [] 0 := ⟨⟨rfl, Or.inl ⟨rfl, rfl⟩⟩, rfl, Int.le_refl _, Int.le_refl _, Int.le_refl _, Nat.le_refl _⟩
theorem BP.rd {A : Hl} {x y l c : Int} {bs : List Int} {m : Nat} (h : BP A x y l c bs m) : RdB A (.slice (slP x y) l.toNat c.toNat) bs := h.own.rd
structure SP (S : Hl) (x y l c : Int) (bs : List Int) (m : Nat) : Prop where
  rd : RdW S (.slice (slP x y) l.toNat c.toNat) bs
  l0 : 0 ≤ l
  ry : 0 ≤ y
  len : bs.length ≤ m
theorem BP.sp {A : Hl} {x y l c : Int} {bs : List Int} {m : Nat} (h : BP A x y l c bs m) : SP A x y l c bs m := ⟨h.rd.w, by rw [h.l]; omega, h.ry, h.len⟩
theorem SP.at {S : Hl} {x y l c : Int} {bs : List Int} {m : Nat} (h : SP S x y l c bs m) : l = bs.length ∧ (bs = [] ∨ 0 ≤ x ∧ ∀ j z, bs[j]? = some z → S.cell x.toNat (y.toNat + j) = some (.int .u8 z)) := by
  obtain ⟨x', y', c', e, hy, hr⟩ := h.rd
  have h0 := h.l0
  simp only [Value.slice.injEq] at e
  refine ⟨by omega, ?_⟩
  rcases hr with hr | ⟨hx, hc⟩
  · exact Or.inl hr
  · obtain ⟨rfl, rfl⟩ := slP_eq hx hy h.ry e.1
    exact Or.inr ⟨hx, hc⟩
section
variable {q : Env} {n : Nat} {A S : Hl} {x y l c sx sy sl sc : Int} {B b2 : List Int} {m m2 : Nat} {D : Env → Prop} {K : Env → Prop}
theorem own_of (h : BP A x y l c B m) : OwnsH A 5 1 (.slice (slP x y) l.toNat c.toNat) l.toNat (bys B) := by
  have := h.own
  have e : l.toNat = B.length := by rw [h.l]; omega
  unfold OwB at this
  rw [e] at this ⊢
  exact this
theorem segB (h : BP A x y l c B m) (h2 : SP S sx sy sl sc b2 m2) (hm : m + m2 ≤ 900000)
    (k : ∀ q', Agree n q q' → BP (q'.h n) (q'.i n) 0 (l + sl) (q'.i (n + 1)) (B ++ b2) (m + m2) → K q') :
    ((∃ xs, OwnsH A 5 1 (.slice (slP x y) l.toNat c.toNat) l.toNat xs) ∧ 0 ≤ l ∧ ((0 ≤ sx ∧ 0 ≤ sy ∧ 0 ≤ sl ∧ ∀ j : Nat, j < sl.toNat → ∃ v, S.cell sx.toNat (sy.toNat + j) = some v ∧ v.oneCell' = true) ∨ sl = 0) ∧ l.toNat + sl.toNat ≤ maxLen ∧ l.toNat + sl.toNat ≤ 140737488355328) ∧
    ∀ q', Agree n q q' → (-1 ≤ q'.i n ∧ 0 ≤ q'.i (n + 1) ∧ (∀ xs, OwnsH A 5 1 (.slice (slP x y) l.toNat c.toNat) l.toNat xs → OwnsH (q'.h n) 5 1 (.slice (slP (q'.i n) 0) (l.toNat + sl.toNat) (q'.i (n + 1)).toNat) (l.toNat + sl.toNat) (xs ++ segVals S sx.toNat sy.toNat sl.toNat)) ∧ D q') → K q' := by
  obtain ⟨el, hr⟩ := h2.at
  obtain ⟨hok, hseg⟩ := seg_of (R := S) (x := sx) (y := sy) (l := sl) el h2.ry hr
  have e1 := h.l
  have e2 := h.len
  have e3 := h2.len
  refine ⟨⟨⟨bys B, own_of h⟩, by omega, hok, by unfold maxLen; omega, by omega⟩, fun q' g ⟨a1, a2, a3, _⟩ => k q' g ⟨?_, by rw [List.length_append]; omega, a1, Int.le_refl _, a2, by rw [List.length_append]; omega⟩⟩
  have := a3 _ (own_of h)
  rw [hseg, ← bys_append] at this
  have e : l.toNat + sl.toNat = (B ++ b2).length := by rw [List.length_append]; omega
  rw [e] at this
  unfold OwB
  rw [show (l + sl).toNat = (B ++ b2).length by rw [List.length_append]; omega]
  exact this
theorem cvsB {vs : List Value} {mm : Nat} {ml : Int} (h : BP A x y l c B m) (hv : vs = bys b2) (hmm : mm = b2.length) (hml : ml = mm) (hm : m + b2.length ≤ 900000)
    (k : ∀ q', Agree n q q' → BP (q'.h n) (q'.i n) 0 (l + ml) (q'.i (n + 1)) (B ++ b2) (m + b2.length) → K q') :
    ((∃ xs, OwnsH A 5 1 (.slice (slP x y) l.toNat c.toNat) l.toNat xs) ∧ 0 ≤ l ∧ l.toNat + mm ≤ maxLen ∧ l.toNat + mm ≤ 140737488355328) ∧
    ∀ q', Agree n q q' → (-1 ≤ q'.i n ∧ 0 ≤ q'.i (n + 1) ∧ (∀ xs, OwnsH A 5 1 (.slice (slP x y) l.toNat c.toNat) l.toNat xs → OwnsH (q'.h n) 5 1 (.slice (slP (q'.i n) 0) (l.toNat + mm) (q'.i (n + 1)).toNat) (l.toNat + mm) (xs ++ vs)) ∧ D q') → K q' := by
  have e1 := h.l
  have e2 := h.len
  refine ⟨⟨⟨bys B, own_of h⟩, by omega, by unfold maxLen; omega, by omega⟩, fun q' g ⟨a1, a2, a3, _⟩ => k q' g ⟨?_, by rw [List.length_append]; omega, a1, Int.le_refl _, a2, by rw [List.length_append]; omega⟩⟩
  have := a3 _ (own_of h)
  rw [hv, ← bys_append] at this
  have e : l.toNat + mm = (B ++ b2).length := by rw [List.length_append]; omega
  rw [e] at this
  unfold OwB
  rw [show (l + ml).toNat = (B ++ b2).length by rw [List.length_append]; omega]
  exact this
theorem bp_of {F : Hl} {q' : Env} (hO : OwB F 5 (.slice (slP (q'.i n) (q'.i (n + 1))) (q'.i (n + 2)).toNat (q'.i (n + 3)).toNat) B) (hF : True → q'.h n = F) (hn : cpNorms n [.one .sl] q') (hm : B.length ≤ m) : BP (q'.h n) (q'.i n) (q'.i (n + 1)) (q'.i (n + 2)) (q'.i (n + 3)) B m := by
  have hn : -1 ≤ q'.i n ∧ 0 ≤ q'.i (n + 1) ∧ 0 ≤ q'.i (n + 2) ∧ 0 ≤ q'.i (n + 3) := hn.1
  rw [← hF trivial] at hO
  have e : (q'.i (n + 2)).toNat = B.length := by
    obtain ⟨x, y, c, e, _⟩ := hO.rd
    simp only [Value.slice.injEq] at e
    exact e.2.1
  exact ⟨hO, by omega, hn.1, hn.2.1, hn.2.2.2, hm⟩
theorem rnumB {z : Int} (hz : 0 ≤ z ∧ z < 18446744073709551616) (k : ∀ q', Agree n q q' → BP (q'.h n) (q'.i n) (q'.i (n + 1)) (q'.i (n + 2)) (q'.i (n + 3)) (numB z.toNat) 10 → K q') :
    rnumS.pre [.int .u64 z] [] [] ∧ ∀ q', Agree n q q' → (∃ F, rnumS.post [.int .u64 z] [] [] (.slice (slP (q'.i n) (q'.i (n + 1))) (q'.i (n + 2)).toNat (q'.i (n + 3)).toNat) [] F ∧ (True → q'.h n = F) ∧ cpNorms n [.one .sl] q') → K q' := by
  refine ⟨⟨z, rfl, hz⟩, fun q' g ⟨F, ⟨z', hz', hO⟩, hF, hn⟩ => k q' g ?_⟩
  simp only [List.cons.injEq, Value.int.injEq, true_and, and_true] at hz'
  subst hz'
  exact bp_of hO hF hn (lenB (by omega))
end
theorem bp_shape {q : Env} {x l c : Int} {X L C : E} (hX : iev q X = x) (hL : iev q L = l) (hC : iev q C = c) (rx : -1 ≤ x) (rl : 0 ≤ l) (rc : 0 ≤ c) : ∃ ρ2, (TV.sv (.one (.sl X (.lit 0) L C))).ev q = (cpTV 0 [.one .sl]).ev ρ2 ∧ cpNorms 0 [.one .sl] ρ2 :=
  ⟨⟨fun k => [x, 0, l, c].getD k 0, fun _ => false, fun _ => .empty, fun _ => .tuple #[], fun _ => Hl.none⟩, by
    show Value.slice (slP (iev q X) 0) (iev q L).toNat (iev q C).toNat = .slice (slP x 0) l.toNat c.toNat
    rw [hX, hL, hC], ⟨⟨rx, Int.le_refl _, rl, rc⟩, trivial⟩⟩
def rtextS : Sx.Spec where
  fn := 93
  own := []
  rd := [0]
  res := [.one .sl]
  pre := fun xs Hs Rs => ∃ u R b, xs = [u] ∧ Rs = [R] ∧ RdW R u b ∧ b.length ≤ 90000
  post := fun xs Hs Rs v Hs' F => ∃ u R b, xs = [u] ∧ Rs = [R] ∧ RdW R u b ∧ OwB F 5 v (textBytes b)
def rtextNd : Nd := .and (.e (.le (.lit 0) (.var 2))) (.and (.pre (.call 0 5 [.sv (.one (.int .u64 (.wrap .u64 (.var 2))))] [] [])) (.ext (.call 0 5 [.sv (.one (.int .u64 (.wrap .u64 (.var 2))))] [] []) (.and (.pre (.app 9 5 1 1 (.sl (.var 5) (.var 6) (.var 7) (.var 8)) (.var 7) (.hp 5 [] [.var 5] []) (.seg 4 (.var 0) (.var 1) (.var 2)))) (.ext (.app 9 5 1 1 (.sl (.var 5) (.var 6) (.var 7) (.var 8)) (.var 7) (.hp 5 [] [.var 5] []) (.seg 4 (.var 0) (.var 1) (.var 2))) (.post [.ro 4 [.var 0] false, .hp 9 [5] [.var 9, .var 5] []] (.sv (.one (.sl (.var 9) (.lit 0) (.add (.var 7) (.var 2)) (.var 10)))))))))
def rtextW : Walk Tryd.prog [rnumS] 93 where
  Λ := noLoops
  args := [.sv (.one (.sl (.var 0) (.var 1) (.var 2) (.var 3)))]
  mem := [.ro 4 [.var 0] false]
  nv := 5
  nd := rtextNd
  ok := by kernel_rfl
theorem rtg0 {l : List Sx.Spec} : (rnumS :: l)[0]? = some rnumS := rfl
theorem rtextS_ok : rtextS.OK Tryd.prog := by
  refine Spec.of_fn (Γ := [rnumS]) (fun t ht => by rw [List.mem_singleton] at ht; subst ht; exact rnumS_ok) ?_
  rintro xs Hs Rs hl1 hl2 ⟨u, R, b, rfl, rfl, hR, hb⟩
  have e0 : Hs = [] := List.length_eq_zero_iff.1 hl1
  subst e0
  obtain ⟨x, y, c, rfl, hy, _⟩ := id hR
  refine ⟨rtextW, envI [x, y, b.length, c] false [Hl.none, Hl.none, Hl.none, Hl.none, R], fun _ _ => True, fun _ _ => 0, ?_, ⟨?_, ?_, ?_, ?_⟩, (fun _ h => nomatch h), ?_⟩
  · show [Value.slice (slP x y) ((b.length : Int)).toNat ((c : Int)).toNat] = _
    rw [Int.toNat_natCast, Int.toNat_natCast]
  · intro r hr ho; simp [rtextW] at hr; subst hr; cases ho
  · intro r hr ho; simp [rtextW] at hr; subst hr; exact ⟨R, by simp, Hl.le_refl _⟩
  · simp [rtextW]
  · intro r hr; simp [rtextW] at hr; subst hr; trivial
  · show Nd.holds _ _ _ rtextNd
    generalize hρ : envI [x, y, b.length, c] false [Hl.none, Hl.none, Hl.none, Hl.none, R] = ρ
    have v0 : ρ.i 0 = x := by rw [← hρ]; rfl
    have v1 : ρ.i 1 = y := by rw [← hρ]; rfl
    have v2 : ρ.i 2 = b.length := by rw [← hρ]; rfl
    have v3 : ρ.i 3 = c := by rw [← hρ]; rfl
    have w4 : ρ.h 4 = R := by rw [← hρ]; rfl
    clear hρ
    have hS : SP (ρ.h 4) (ρ.i 0) (ρ.i 1) (ρ.i 2) (ρ.i 3) b 90000 := by
      rw [v0, v1, v2, v3, w4]
      exact ⟨by rw [Int.toNat_natCast, Int.toNat_natCast]; exact hR, by omega, hy, hb⟩
    unfold rtextNd
    simp only [Nd.holds, X.pre, X.rel, X.n, Src.ok, Src.len, Src.vals, true_and, and_true, if_true, Nat.mul_one, Nat.add_zero, Nat.reduceAdd, List.length_cons, List.length_nil, bT_tt, bT_ff, bT_bvar, bT_not, bT_and, bT_or, bT_ite, bT_lt, bT_le, bT_eq, bT_beq, bT_seq, bT_hB, bT_his, bT_hby, bT_hism, bT_hks, iev_lit, iev_var, iev_add, iev_sub, iev_mul, iev_wrap, iev_ite, iev_hI, iev_hP, iev_hmlen, sev_ite, sev_slit, sev_sof, sev_svar, TV.ev, SV.ev, CV.ev, List.map_cons, List.map_nil, Res.hl, cpTV, Cp.sv, Ck.cv, cpSVs, Cp.len, Ck.len, newHs_zero, newHs_one, roots_ne, rtg0, rcr0, rcc0]
    have ew : IntKind.u64.wrap (ρ.i 2) = (b.length : Int) := by rw [v2, wu64 (by omega) (by omega)]
    rw [ew]
    refine ⟨by omega, rnumB ⟨by omega, by omega⟩ fun q1 g1 P1 => ?_⟩
    simp only [g1.i, g1.h, Nat.reduceLT]
    refine segB P1 hS (by omega) fun q2 g2 P2 => ?_
    intro _
    refine ⟨[], [1], rfl, rfl, bp_shape rfl rfl rfl P2.rx (by
      show 0 ≤ q2.i 7 + q2.i 2
      rw [g2.i 7 (by omega), g2.i 2 (by omega), g1.i 2 (by omega), P1.l, v2]; omega) P2.rc, _, R, b, rfl, rfl, hR, ?_⟩
    show OwB (hls [q2.h 9]) _ (.slice (slP (q2.i 9) 0) (q2.i 7 + q2.i 2).toNat (q2.i 10).toNat) _
    rw [hls_one, g2.i 7 (by omega), g2.i 2 (by omega), g1.i 2 (by omega)]
    exact P2.own
def rnumsS : Sx.Spec where
  fn := 58
  own := []
  rd := []
  res := [.one .sl]
  pre := fun xs Hs Rs => ∃ vs, xs = [.agg (us vs).toArray] ∧ vs.length = 6 ∧ u64s vs
  post := fun xs Hs Rs v Hs' F => ∃ vs, xs = [.agg (us vs).toArray] ∧ OwB F 5 v (vecB vs)
def rnumsNd : Nd := .ext (.alloc 6) (.and (.pre (.call 0 7 [.sv (.one (.int .u64 (.var 0)))] [] [])) (.ext (.call 0 7 [.sv (.one (.int .u64 (.var 0)))] [] []) (.and (.pre (.app 11 5 1 1 (.sl (.lit (-1)) (.lit 0) (.lit 0) (.lit 0)) (.lit 0) .dead (.seg 7 (.var 7) (.var 8) (.var 9)))) (.ext (.app 11 5 1 1 (.sl (.lit (-1)) (.lit 0) (.lit 0) (.lit 0)) (.lit 0) .dead (.seg 7 (.var 7) (.var 8) (.var 9))) (.and (.pre (.call 0 13 [.sv (.one (.int .u64 (.var 1)))] [] [])) (.ext (.call 0 13 [.sv (.one (.int .u64 (.var 1)))] [] []) (.and (.pre (.app 17 5 1 1 (.sl (.var 11) (.lit 0) (.var 9) (.var 12)) (.var 9) (.hp 11 [] [.var 11] []) (.seg 13 (.var 13) (.var 14) (.var 15)))) (.ext (.app 17 5 1 1 (.sl (.var 11) (.lit 0) (.var 9) (.var 12)) (.var 9) (.hp 11 [] [.var 11] []) (.seg 13 (.var 13) (.var 14) (.var 15))) (.and (.pre (.call 0 19 [.sv (.one (.int .u64 (.var 2)))] [] [])) (.ext (.call 0 19 [.sv (.one (.int .u64 (.var 2)))] [] []) (.and (.pre (.app 23 5 1 1 (.sl (.var 17) (.lit 0) (.add (.var 9) (.var 15)) (.var 18)) (.add (.var 9) (.var 15)) (.hp 17 [11] [.var 17, .var 11] []) (.seg 19 (.var 19) (.var 20) (.var 21)))) (.ext (.app 23 5 1 1 (.sl (.var 17) (.lit 0) (.add (.var 9) (.var 15)) (.var 18)) (.add (.var 9) (.var 15)) (.hp 17 [11] [.var 17, .var 11] []) (.seg 19 (.var 19) (.var 20) (.var 21))) (.and (.pre (.call 0 25 [.sv (.one (.int .u64 (.var 3)))] [] [])) (.ext (.call 0 25 [.sv (.one (.int .u64 (.var 3)))] [] []) (.and (.pre (.app 29 5 1 1 (.sl (.var 23) (.lit 0) (.add (.add (.var 9) (.var 15)) (.var 21)) (.var 24)) (.add (.add (.var 9) (.var 15)) (.var 21)) (.hp 23 [17, 11] [.var 23, .var 17, .var 11] []) (.seg 25 (.var 25) (.var 26) (.var 27)))) (.ext (.app 29 5 1 1 (.sl (.var 23) (.lit 0) (.add (.add (.var 9) (.var 15)) (.var 21)) (.var 24)) (.add (.add (.var 9) (.var 15)) (.var 21)) (.hp 23 [17, 11] [.var 23, .var 17, .var 11] []) (.seg 25 (.var 25) (.var 26) (.var 27))) (.and (.pre (.call 0 31 [.sv (.one (.int .u64 (.var 4)))] [] [])) (.ext (.call 0 31 [.sv (.one (.int .u64 (.var 4)))] [] []) (.and (.pre (.app 35 5 1 1 (.sl (.var 29) (.lit 0) (.add (.add (.add (.var 9) (.var 15)) (.var 21)) (.var 27)) (.var 30)) (.add (.add (.add (.var 9) (.var 15)) (.var 21)) (.var 27)) (.hp 29 [23, 17, 11] [.var 29, .var 23, .var 17, .var 11] []) (.seg 31 (.var 31) (.var 32) (.var 33)))) (.ext (.app 35 5 1 1 (.sl (.var 29) (.lit 0) (.add (.add (.add (.var 9) (.var 15)) (.var 21)) (.var 27)) (.var 30)) (.add (.add (.add (.var 9) (.var 15)) (.var 21)) (.var 27)) (.hp 29 [23, 17, 11] [.var 29, .var 23, .var 17, .var 11] []) (.seg 31 (.var 31) (.var 32) (.var 33))) (.and (.pre (.call 0 37 [.sv (.one (.int .u64 (.var 5)))] [] [])) (.ext (.call 0 37 [.sv (.one (.int .u64 (.var 5)))] [] []) (.and (.pre (.app 41 5 1 1 (.sl (.var 35) (.lit 0) (.add (.add (.add (.add (.var 9) (.var 15)) (.var 21)) (.var 27)) (.var 33)) (.var 36)) (.add (.add (.add (.add (.var 9) (.var 15)) (.var 21)) (.var 27)) (.var 33)) (.hp 35 [29, 23, 17, 11] [.var 35, .var 29, .var 23, .var 17, .var 11] []) (.seg 37 (.var 37) (.var 38) (.var 39)))) (.ext (.app 41 5 1 1 (.sl (.var 35) (.lit 0) (.add (.add (.add (.add (.var 9) (.var 15)) (.var 21)) (.var 27)) (.var 33)) (.var 36)) (.add (.add (.add (.add (.var 9) (.var 15)) (.var 21)) (.var 27)) (.var 33)) (.hp 35 [29, 23, 17, 11] [.var 35, .var 29, .var 23, .var 17, .var 11] []) (.seg 37 (.var 37) (.var 38) (.var 39))) (.post [.dead, .hp 7 [] [.var 7] [], .hp 41 [35, 29, 23, 17, 11] [.var 41, .var 35, .var 29, .var 23, .var 17, .var 11] [], .hp 13 [] [.var 13] [], .hp 19 [] [.var 19] [], .hp 25 [] [.var 25] [], .hp 31 [] [.var 31] [], .hp 37 [] [.var 37] []] (.sv (.one (.sl (.var 41) (.lit 0) (.add (.add (.add (.add (.add (.var 9) (.var 15)) (.var 21)) (.var 27)) (.var 33)) (.var 39)) (.var 42)))))))))))))))))))))))))))))
def rnumsW : Walk Tryd.prog [rnumS] 58 where
  Λ := noLoops
  args := [.sv (.agg (ckCVs 0 (List.replicate 6 (.int .u64))))]
  mem := []
  nv := 6
  nd := rnumsNd
  ok := by kernel_rfl
theorem rnumsS_ok : rnumsS.OK Tryd.prog := by
  refine Spec.of_fn (Γ := [rnumS]) (fun t ht => by rw [List.mem_singleton] at ht; subst ht; exact rnumS_ok) ?_
  rintro xs Hs Rs hl1 hl2 ⟨vs, rfl, h6, hu⟩
  have e0 : Hs = [] := List.length_eq_zero_iff.1 hl1
  have e1 : Rs = [] := List.length_eq_zero_iff.1 hl2
  subst e0 e1
  match vs, h6 with
  | [v1, v2, v3, v4, v5, v6], _ =>
  have hv : ∀ z ∈ [v1, v2, v3, v4, v5, v6], 0 ≤ z ∧ z < 18446744073709551616 := hu
  simp only [List.mem_cons, List.mem_nil_iff, or_false, forall_eq_or_imp, forall_eq] at hv
  obtain ⟨u1, u2, u3, u4, u5, u6⟩ := hv
  refine ⟨rnumsW, envI [v1, v2, v3, v4, v5, v6] false [], fun _ _ => True, fun _ _ => 0, rfl, ⟨?_, ?_, ?_, ?_⟩, (fun _ h => nomatch h), ?_⟩
  · intro r hr; cases hr
  · intro r hr; cases hr
  · exact List.Pairwise.nil
  · intro r hr; cases hr
  · show Nd.holds _ _ _ rnumsNd
    generalize hρ : envI [v1, v2, v3, v4, v5, v6] false [] = ρ
    have w0 : ρ.i 0 = v1 := by rw [← hρ]; rfl
    have w1 : ρ.i 1 = v2 := by rw [← hρ]; rfl
    have w2 : ρ.i 2 = v3 := by rw [← hρ]; rfl
    have w3 : ρ.i 3 = v4 := by rw [← hρ]; rfl
    have w4 : ρ.i 4 = v5 := by rw [← hρ]; rfl
    have w5 : ρ.i 5 = v6 := by rw [← hρ]; rfl
    clear hρ
    unfold rnumsNd
    simp only [Nd.holds, X.pre, X.rel, X.n, Src.ok, Src.len, Src.vals, true_and, and_true, if_true, Nat.mul_one, Nat.add_zero, Nat.reduceAdd, List.length_cons, List.length_nil, bT_tt, bT_ff, bT_bvar, bT_not, bT_and, bT_or, bT_ite, bT_lt, bT_le, bT_eq, bT_beq, bT_seq, bT_hB, bT_his, bT_hby, bT_hism, bT_hks, iev_lit, iev_var, iev_add, iev_sub, iev_mul, iev_wrap, iev_ite, iev_hI, iev_hP, iev_hmlen, sev_ite, sev_slit, sev_sof, sev_svar, TV.ev, SV.ev, CV.ev, List.map_cons, List.map_nil, Res.hl, cpTV, Cp.sv, Ck.cv, cpSVs, Cp.len, Ck.len, newHs_zero, newHs_one, roots_ne, rtg0, rcr0, rcc0]
    intro q0 g0 _
    simp only [g0.i, Nat.reduceLT, w0, w1, w2, w3, w4, w5]
    refine rnumB u1 fun q1 g1 N1 => ?_
    try simp only [g1.i, g1.h, g0.i, g0.h, Nat.reduceLT, w0, w1, w2, w3, w4, w5]
    refine segB BP.nil N1.sp (by omega) fun q2 g2 P2 => ?_
    rw [Int.zero_add] at P2
    try simp only [g2.i, g2.h, g1.i, g1.h, g0.i, g0.h, Nat.reduceLT, w0, w1, w2, w3, w4, w5]
    refine rnumB u2 fun q3 g3 N3 => ?_
    try simp only [g3.i, g3.h, g2.i, g2.h, g1.i, g1.h, g0.i, g0.h, Nat.reduceLT, w0, w1, w2, w3, w4, w5]
    refine segB P2 N3.sp (by omega) fun q4 g4 P4 => ?_
    try simp only [g4.i, g4.h, g3.i, g3.h, g2.i, g2.h, g1.i, g1.h, g0.i, g0.h, Nat.reduceLT, w0, w1, w2, w3, w4, w5]
    refine rnumB u3 fun q5 g5 N5 => ?_
    try simp only [g5.i, g5.h, g4.i, g4.h, g3.i, g3.h, g2.i, g2.h, g1.i, g1.h, g0.i, g0.h, Nat.reduceLT, w0, w1, w2, w3, w4, w5]
    refine segB P4 N5.sp (by omega) fun q6 g6 P6 => ?_
    try simp only [g6.i, g6.h, g5.i, g5.h, g4.i, g4.h, g3.i, g3.h, g2.i, g2.h, g1.i, g1.h, g0.i, g0.h, Nat.reduceLT, w0, w1, w2, w3, w4, w5]
    refine rnumB u4 fun q7 g7 N7 => ?_
    try simp only [g7.i, g7.h, g6.i, g6.h, g5.i, g5.h, g4.i, g4.h, g3.i, g3.h, g2.i, g2.h, g1.i, g1.h, g0.i, g0.h, Nat.reduceLT, w0, w1, w2, w3, w4, w5]
    refine segB P6 N7.sp (by omega) fun q8 g8 P8 => ?_
    try simp only [g8.i, g8.h, g7.i, g7.h, g6.i, g6.h, g5.i, g5.h, g4.i, g4.h, g3.i, g3.h, g2.i, g2.h, g1.i, g1.h, g0.i, g0.h, Nat.reduceLT, w0, w1, w2, w3, w4, w5]
    refine rnumB u5 fun q9 g9 N9 => ?_
    try simp only [g9.i, g9.h, g8.i, g8.h, g7.i, g7.h, g6.i, g6.h, g5.i, g5.h, g4.i, g4.h, g3.i, g3.h, g2.i, g2.h, g1.i, g1.h, g0.i, g0.h, Nat.reduceLT, w0, w1, w2, w3, w4, w5]
    refine segB P8 N9.sp (by omega) fun q10 g10 P10 => ?_
    try simp only [g10.i, g10.h, g9.i, g9.h, g8.i, g8.h, g7.i, g7.h, g6.i, g6.h, g5.i, g5.h, g4.i, g4.h, g3.i, g3.h, g2.i, g2.h, g1.i, g1.h, g0.i, g0.h, Nat.reduceLT, w0, w1, w2, w3, w4, w5]
    refine rnumB u6 fun q11 g11 N11 => ?_
    try simp only [g11.i, g11.h, g10.i, g10.h, g9.i, g9.h, g8.i, g8.h, g7.i, g7.h, g6.i, g6.h, g5.i, g5.h, g4.i, g4.h, g3.i, g3.h, g2.i, g2.h, g1.i, g1.h, g0.i, g0.h, Nat.reduceLT, w0, w1, w2, w3, w4, w5]
    refine segB P10 N11.sp (by omega) fun q12 g12 P12 => ?_
    intro _
    have eL : q12.i 9 + q12.i 15 + q12.i 21 + q12.i 27 + q12.i 33 + q12.i 39 = q1.i 9 + q3.i 15 + q5.i 21 + q7.i 27 + q9.i 33 + q11.i 39 := by
      simp only [g12.i, g11.i, g10.i, g9.i, g8.i, g7.i, g6.i, g5.i, g4.i, g3.i, g2.i, g1.i, g0.i, Nat.reduceLT]
    have h0 := P12.l
    refine ⟨[], [2], rfl, rfl, bp_shape rfl rfl rfl P12.rx (by
      show 0 ≤ q12.i 9 + q12.i 15 + q12.i 21 + q12.i 27 + q12.i 33 + q12.i 39
      rw [eL]; omega) P12.rc, _, rfl, ?_⟩
    show OwB (hls [q12.h 41]) _ (.slice (slP (q12.i 41) 0) (q12.i 9 + q12.i 15 + q12.i 21 + q12.i 27 + q12.i 33 + q12.i 39).toNat (q12.i 42).toNat) _
    rw [hls_one, eL]
    have e : vecB [v1, v2, v3, v4, v5, v6] = [] ++ numB v1.toNat ++ numB v2.toNat ++ numB v3.toNat ++ numB v4.toNat ++ numB v5.toNat ++ numB v6.toNat := by
      show numB v1.toNat ++ (numB v2.toNat ++ (numB v3.toNat ++ (numB v4.toNat ++ (numB v5.toNat ++ (numB v6.toNat ++ []))))) = _
      simp only [List.append_assoc, List.append_nil, List.nil_append]
    rw [e]
    exact P12.own
noncomputable def rpcS : Sx.Spec where
  fn := 59
  own := []
  rd := [1000053, 1000125]
  res := [.one .sl]
  pre := fun xs Hs Rs => ∃ row R1 R2 c, xs = [.agg row.toArray] ∧ Rs = [R1, R2] ∧ IsPc R1 R2 row c ∧ c.b.length ≤ 90000
  post := fun xs Hs Rs v Hs' F => ∃ row R1 R2 c, xs = [.agg row.toArray] ∧ Rs = [R1, R2] ∧ IsPc R1 R2 row c ∧ OwB F 5 v (pcB c)
def rpcNd : Nd := .ext (.alloc 136) (.and (.pre (.call 1 137 [.sv (.agg (ckCVs 0 hk2))] [] [.ro 134 [.var 53] false])) (.ext (.call 1 137 [.sv (.agg (ckCVs 0 hk2))] [] [.ro 134 [.var 53] false]) (.and (.pre (.call 2 141 [.sv (.one (.sl (.var 137) (.var 138) (.var 139) (.var 140)))] [] [.hp 137 [] [.var 137] []])) (.ext (.call 2 141 [.sv (.one (.sl (.var 137) (.var 138) (.var 139) (.var 140)))] [] [.hp 137 [] [.var 137] []]) (.and (.pre (.call 2 145 [.sv (.one (.sl (.var 128) (.var 129) (.var 130) (.var 131)))] [] [.ro 135 [.var 128] false])) (.ext (.call 2 145 [.sv (.one (.sl (.var 128) (.var 129) (.var 130) (.var 131)))] [] [.ro 135 [.var 128] false]) (.and (.pre (.app 149 5 1 1 (.sl (.var 141) (.var 142) (.var 143) (.var 144)) (.var 143) (.hp 141 [] [.var 141] []) (.seg 145 (.var 145) (.var 146) (.var 147)))) (.ext (.app 149 5 1 1 (.sl (.var 141) (.var 142) (.var 143) (.var 144)) (.var 143) (.hp 141 [] [.var 141] []) (.seg 145 (.var 145) (.var 146) (.var 147))) (.post [.ro 134 [.var 53] false, .ro 135 [.var 128] false, .dead, .hp 137 [] [.var 137] [], .hp 149 [141] [.var 149, .var 141] [], .hp 145 [] [.var 145] []] (.sv (.one (.sl (.var 149) (.lit 0) (.add (.var 143) (.var 147)) (.var 150)))))))))))))
noncomputable def rpΓ : List Sx.Spec := [rnumS, bytesS 90, rtextS, rnumsS]
theorem rpΓ_ok : ∀ t ∈ rpΓ, t.OK Tryd.prog := fun t ht => by
  simp only [rpΓ, List.mem_cons, List.mem_nil_iff, or_false] at ht
  rcases ht with rfl | rfl | rfl | rfl
  · exact rnumS_ok
  · exact rBytS_ok
  · exact rtextS_ok
  · exact rnumsS_ok
noncomputable def rpcW : Walk Tryd.prog rpΓ 59 where
  Λ := noLoops
  args := [.sv (.agg (ckCVs 0 pk2))]
  mem := [.ro 134 [.var 53] false, .ro 135 [.var 128] false]
  nv := 136
  nd := rpcNd
  ok := by kernel_rfl
theorem rpg1 : rpΓ[1]? = some (bytesS 90) := rfl
theorem rpg2 : rpΓ[2]? = some rtextS := rfl
theorem rpr2 : rtextS.res = [.one .sl] := rfl
section
variable {q : Env} {n : Nat} {A S : Hl} {sx sy sl sc : Int} {b2 : List Int} {m2 : Nat} {K : Env → Prop}
theorem rtextB (h2 : SP S sx sy sl sc b2 m2) (hm : m2 ≤ 90000)
    (k : ∀ q', Agree n q q' → BP (q'.h n) (q'.i n) (q'.i (n + 1)) (q'.i (n + 2)) (q'.i (n + 3)) (textBytes b2) (m2 + 10) → K q') :
    rtextS.pre [.slice (slP sx sy) sl.toNat sc.toNat] [] [S] ∧ ∀ q', Agree n q q' → (∃ F, rtextS.post [.slice (slP sx sy) sl.toNat sc.toNat] [] [S] (.slice (slP (q'.i n) (q'.i (n + 1))) (q'.i (n + 2)).toNat (q'.i (n + 3)).toNat) [] F ∧ (True → q'.h n = F) ∧ cpNorms n [.one .sl] q') → K q' := by
  refine ⟨⟨_, S, b2, rfl, rfl, h2.rd, Nat.le_trans h2.len hm⟩, fun q' g ⟨F, ⟨u, R, b, e1, e2, hR, hO⟩, hF, hn⟩ => k q' g ?_⟩
  simp only [List.cons.injEq, and_true] at e1 e2
  subst e1 e2
  obtain rfl := h2.rd.uniq hR
  refine bp_of hO hF hn ?_
  have := h2.len
  have := lenB (z := b2.length) (by omega)
  unfold textBytes
  rw [List.length_append]; omega
end
theorem rpcS_ok : rpcS.OK Tryd.prog := by
  refine Spec.of_fn (Γ := rpΓ) rpΓ_ok ?_
  rintro xs Hs Rs hl1 hl2 ⟨row, R1, R2, c, rfl, rfl, hx, hcl⟩
  have e0 : Hs = [] := List.length_eq_zero_iff.1 hl1
  subst e0
  obtain ⟨ρ, rfl, hn, hh⟩ := row_env [(134, R1), (135, R2)] hx.ok
  have hHd := hx.hd
  have hBd := hx.body
  rw [show ((ckCVs 0 pk2).map (CV.ev ρ)).take 125 = hrow ρ 0 by kernel_rfl] at hHd
  rw [show ((ckCVs 0 pk2).map (CV.ev ρ)).getD 125 noV = .slice (slP (ρ.i 128) (ρ.i 129)) (ρ.i 130).toNat (ρ.i 131).toNat by kernel_rfl] at hBd
  have w134 : ρ.h 134 = R1 := hh 134
  have w135 : ρ.h 135 = R2 := hh 135
  have n128 : 0 ≤ ρ.i 129 ∧ 0 ≤ ρ.i 130 ∧ 0 ≤ ρ.i 131 := by
    have := norms_at hk2 [.sl] 0 hn
    rw [show 0 + ckLen hk2 = 128 by kernel_rfl] at this
    exact ⟨this.1.2.1, this.1.2.2.1, this.1.2.2.2⟩
  refine ⟨rpcW, ρ, fun _ _ => True, fun _ _ => 0, by kernel_rfl, ⟨?_, ?_, ?_, ?_⟩, (fun _ h => nomatch h), ?_⟩
  · intro r hr ho; simp [rpcW] at hr; rcases hr with rfl | rfl <;> cases ho
  · intro r hr ho; simp [rpcW] at hr
    rcases hr with rfl | rfl
    · exact ⟨R1, by simp, by show (ρ.h 134).le R1; rw [w134]; exact Hl.le_refl _⟩
    · exact ⟨R2, by simp, by show (ρ.h 135).le R2; rw [w135]; exact Hl.le_refl _⟩
  · simp [rpcW, Res.own]
  · intro r hr; simp [rpcW] at hr; rcases hr with rfl | rfl <;> trivial
  · show Nd.holds _ _ _ rpcNd
    unfold rpcNd
    simp only [Nd.holds, X.pre, X.rel, X.n, Src.ok, Src.len, Src.vals, true_and, and_true, if_true, Nat.mul_one, Nat.add_zero, Nat.reduceAdd, List.length_cons, List.length_nil, bT_tt, bT_ff, bT_bvar, bT_not, bT_and, bT_or, bT_ite, bT_lt, bT_le, bT_eq, bT_beq, bT_seq, bT_hB, bT_his, bT_hby, bT_hism, bT_hks, iev_lit, iev_var, iev_add, iev_sub, iev_mul, iev_wrap, iev_ite, iev_hI, iev_hP, iev_hmlen, sev_ite, sev_slit, sev_sof, sev_svar, TV.ev, SV.ev, CV.ev, List.map_cons, List.map_nil, Res.hl, cpTV, Cp.sv, Ck.cv, cpSVs, Cp.len, Ck.len, newHs_zero, newHs_one, roots_ne, rpg1, rpg2, rpr2, apr5, rcc0]
    intro q0 g0 _
    simp only [ag_row g0, ckLen_hk, Nat.reduceAdd, Nat.reduceLeDiff, g0.h, g0.i, Nat.reduceLT, w134]
    refine ⟨⟨_, R1, c.h, rfl, rfl, hHd⟩, fun q1 g1 ⟨F, hp, hF, hnm⟩ => ?_⟩
    have P1 := bp_of (byt_res hHd hp) hF hnm (bytesOf_len hHd)
    refine rtextB P1.sp (by omega) fun q2 g2 P2 => ?_
    simp only [g2.i, g2.h, g1.i, g1.h, g0.i, g0.h, Nat.reduceLT, w135]
    refine rtextB (⟨hBd, n128.2.1, n128.1, hcl⟩ : SP R2 (ρ.i 128) (ρ.i 129) (ρ.i 130) (ρ.i 131) c.b 90000) (by omega) fun q3 g3 P3 => ?_
    simp only [g3.i, g3.h, g2.i, g2.h, g1.i, g1.h, g0.i, g0.h, Nat.reduceLT]
    refine segB P2 P3.sp (by omega) fun q4 g4 P4 => ?_
    intro _
    have eL : q4.i 143 + q4.i 147 = q2.i 143 + q3.i 147 := by simp only [g4.i, g3.i, Nat.reduceLT]
    have h0 := P4.l
    refine ⟨[], [4], rfl, rfl, bp_shape rfl rfl rfl P4.rx (by
      show 0 ≤ q4.i 143 + q4.i 147
      rw [eL]; omega) P4.rc, _, R1, R2, c, rfl, rfl, hx, ?_⟩
    show OwB (hls [q4.h 149]) _ (.slice (slP (q4.i 149) 0) (q4.i 143 + q4.i 147).toNat (q4.i 150).toNat) _
    rw [hls_one, eL]
    exact P4.own
section
variable {q : Env} {n : Nat} {K : Env → Prop} {R1 R2 : Hl}
theorem rbr3 : rnumsS.res = [.one .sl] := rfl
theorem rbr4 : rpcS.res = [.one .sl] := rfl
theorem one_num {z : Int} (h0 : 0 ≤ z) (h1 : z < 128) : numB (u64N z) = [z] ∧ IntKind.u8.wrap z = z := by
  have e : u64N z = z.toNat := by unfold u64N; rw [wu64 (by omega) (by omega)]
  rw [e]
  have e2 : ((z.toNat : Nat) : Int) = z := by omega
  refine ⟨?_, ?_⟩
  · rw [numB_low (by omega), e2]
  · rw [wu8]; omega
theorem rnumsB {vs : List Int} (h6 : vs.length = 6) (hu : u64s vs) (k : ∀ q', Agree n q q' → BP (q'.h n) (q'.i n) (q'.i (n + 1)) (q'.i (n + 2)) (q'.i (n + 3)) (vecB vs) 60 → K q') :
    rnumsS.pre [.agg (us vs).toArray] [] [] ∧ ∀ q', Agree n q q' → (∃ F, rnumsS.post [.agg (us vs).toArray] [] [] (.slice (slP (q'.i n) (q'.i (n + 1))) (q'.i (n + 2)).toNat (q'.i (n + 3)).toNat) [] F ∧ (True → q'.h n = F) ∧ cpNorms n [.one .sl] q') → K q' := by
  refine ⟨⟨vs, rfl, h6, hu⟩, fun q' g ⟨F, ⟨vs', e1, hO⟩, hF, hn⟩ => k q' g ?_⟩
  simp only [List.cons.injEq, Value.agg.injEq, and_true] at e1
  obtain rfl := us_inj (List.toArray_inj e1)
  exact bp_of hO hF hn (vec_len h6 hu)
theorem rpcB {row : List Value} {c : Pc} (hx : IsPc R1 R2 row c) (hc : c.b.length ≤ 4096) (k : ∀ q', Agree n q q' → BP (q'.h n) (q'.i n) (q'.i (n + 1)) (q'.i (n + 2)) (q'.i (n + 3)) (pcB c) 5048 → K q') :
    rpcS.pre [.agg row.toArray] [] [R1, R2] ∧ ∀ q', Agree n q q' → (∃ F, rpcS.post [.agg row.toArray] [] [R1, R2] (.slice (slP (q'.i n) (q'.i (n + 1))) (q'.i (n + 2)).toNat (q'.i (n + 3)).toNat) [] F ∧ (True → q'.h n = F) ∧ cpNorms n [.one .sl] q') → K q' := by
  refine ⟨⟨row, R1, R2, c, rfl, rfl, hx, by omega⟩, fun q' g ⟨F, ⟨row', R1', R2', c', e1, e2, hx', hO⟩, hF, hn⟩ => k q' g ?_⟩
  simp only [List.cons.injEq, Value.agg.injEq, and_true] at e1 e2
  obtain rfl := List.toArray_inj e1
  obtain ⟨rfl, rfl⟩ := e2
  obtain rfl := hx.uniq hx'
  exact bp_of hO hF hn (pcB_len hx hc)
theorem BP.to {A A' : Hl} {x x' y y' l l' c c' : Int} {bs bs' : List Int} {m m' : Nat} (h : BP A x y l c bs m) (e1 : A' = A) (e2 : x' = x) (e3 : y' = y) (e4 : l' = l) (e5 : c' = c) (e6 : bs' = bs) (e7 : m ≤ m') : BP A' x' y' l' c' bs' m' := by
  subst e1 e2 e3 e4 e5 e6
  exact ⟨h.own, h.l, h.rx, h.ry, h.rc, Nat.le_trans h.len e7⟩
end
end Go.Proofs.YtomdimlnggpgbaaDoor
namespace Go.Proofs.YtomdimlnggpgbaaDoor
open Go Go.Sx Go.Pk
theorem lawQ {R : Hl} {row : List Value} {h : Hd} (hx : IsHd R row h) (hF : h.Form) : (cI (prH (hdB h)).c 0 = cI h.c 0 ∧ cI (prH (hdB h)).c 1 = cI h.c 1 ∧ cI (prH (hdB h)).c 34 = cI h.c 34 ∧ cB (prH (hdB h)).c 35 = cB h.c 35 ∧ cI (prH (hdB h)).c 36 = cI h.c 36 ∧ cI (prH (hdB h)).c 54 = cI h.c 54 ∧ cI (prH (hdB h)).c 55 = cI h.c 55 ∧ cI (prH (hdB h)).c 56 = cI h.c 56 ∧ cI (prH (hdB h)).c 57 = cI h.c 57 ∧ cI (prH (hdB h)).c 58 = cI h.c 58 ∧ cI (prH (hdB h)).c 59 = cI h.c 59 ∧ cI (prH (hdB h)).c 92 = cI h.c 92) ∧ (segI (prH (hdB h)).c 2 32 = segI h.c 2 32 ∧ segI (prH (hdB h)).c 37 16 = segI h.c 37 16 ∧ segI (prH (hdB h)).c 60 32 = segI h.c 60 32 ∧ segI (prH (hdB h)).c 93 32 = segI h.c 93 32) ∧ (prH (hdB h)).t = h.t := by
  obtain ⟨⟨hw, hs, he, ht, hk, hkn, hp⟩, h8, hso, hpd, hct⟩ := id hF
  have u : ∀ {k : Nat}, hkd[k]? = some (.int .u64) → k ≠ 53 → 0 ≤ cI h.c k := fun {k} hk h53 => by
    rw [hx.I h53]; exact (hx.rng _ (List.mem_of_getElem? (row_u64 hx.ok hk))).1
  have u1 : 0 ≤ cI h.c 1 := u rfl (by decide)
  have u36 : 0 ≤ cI h.c 36 := u rfl (by decide)
  have u54 : 0 ≤ cI h.c 54 := u rfl (by decide)
  have u55 : 0 ≤ cI h.c 55 := u rfl (by decide)
  have u56 : 0 ≤ cI h.c 56 := u rfl (by decide)
  have u57 : 0 ≤ cI h.c 57 := u rfl (by decide)
  have u58 : 0 ≤ cI h.c 58 := u rfl (by decide)
  have u59 : 0 ≤ cI h.c 59 := u rfl (by decide)
  have hsz : 80 ≤ cI h.c 92 ∧ cI h.c 92 ≤ 2064 := isPad_in hpd
  have ht16 : ∀ t ∈ h.t, t.length = 16 := fun t ht => (hx.byte.2 t ht).1
  generalize hb : hdB h = b
  have key : b = numB (cI h.c 0).toNat ++ (numB (cI h.c 1).toNat ++ (segI h.c 2 32 ++ (numB (cI h.c 34).toNat ++ (flagB (cB h.c 35) ++ (numB (cI h.c 36).toNat ++ (segI h.c 37 16 ++ (numB h.t.length ++ (h.t.flatten ++ (numB (cI h.c 54).toNat ++ (numB (cI h.c 55).toNat ++ (numB (cI h.c 56).toNat ++ (numB (cI h.c 57).toNat ++ (numB (cI h.c 58).toNat ++ (numB (cI h.c 59).toNat ++ (segI h.c 60 32 ++ (numB (cI h.c 92).toNat ++ (segI h.c 93 32 ++ ([])))))))))))))))))) := by
    rw [← hb]
    unfold hdB coreB coreZ coreA
    rw [u64N_id (z := cI h.c 0) (by omega) (by omega), u64N_id (z := cI h.c 34) (by omega) (by omega), u64N_id (z := cI h.c 92) (by omega) (by omega)]
    simp only [List.append_assoc, List.append_nil]
  have s0 : p0 b = ⟨_, false⟩ := congrArg (fun l => PS.mk l false) key
  obtain ⟨s1, v1⟩ := numS' (m := 6) (z := (cI h.c 0).toNat) s0 (by omega) (by omega)
  have s1 : p1 b = ⟨_, false⟩ := s1
  obtain ⟨s2, v2⟩ := numS' (m := 1048576) (z := (cI h.c 1).toNat) s1 (by omega) (by omega)
  have s2 : p2 b = ⟨_, false⟩ := s2
  obtain ⟨s3, v3⟩ := rawS' (n := 32) (l := segI h.c 2 32) s2 (by rw [segI_len]; rfl)
  have s3 : p3 b = ⟨_, false⟩ := s3
  obtain ⟨s4, v4⟩ := numS' (m := 255) (z := (cI h.c 34).toNat) s3 (by omega) (by omega)
  have s4 : p4 b = ⟨_, false⟩ := s4
  obtain ⟨s5, v5⟩ := flagS' s4
  have s5 : p5 b = ⟨_, false⟩ := s5
  obtain ⟨s6, v6⟩ := numS' (m := 1099511627776) (z := (cI h.c 36).toNat) s5 (by omega) (by omega)
  have s6 : p6 b = ⟨_, false⟩ := s6
  obtain ⟨s7, v7⟩ := rawS' (n := 16) (l := segI h.c 37 16) s6 (by rw [segI_len]; rfl)
  have s7 : p7 b = ⟨_, false⟩ := s7
  obtain ⟨s8, v8⟩ := numS' (m := 8) (z := h.t.length) s7 (by omega) (by omega)
  have s8 : p8 b = ⟨_, false⟩ := s8
  have vN : hN b = h.t.length := by unfold hN; rw [v8]; exact Int.toNat_natCast _
  have sT := toksS' s8 ht16
  rw [← vN] at sT
  have s9 : (pToks (hN b) (p8 b)).2 = ⟨_, false⟩ := congrArg Prod.snd sT
  have vT : hT b = h.t := congrArg Prod.fst sT
  have s9 : k0 b = ⟨_, false⟩ := s9
  obtain ⟨s10, v10⟩ := numS' (m := 1048576) (z := (cI h.c 54).toNat) s9 (by omega) (by omega)
  have s10 : k1 b = ⟨_, false⟩ := s10
  obtain ⟨s11, v11⟩ := numS' (m := 1048576) (z := (cI h.c 55).toNat) s10 (by omega) (by omega)
  have s11 : k2 b = ⟨_, false⟩ := s11
  obtain ⟨s12, v12⟩ := numS' (m := 1048576) (z := (cI h.c 56).toNat) s11 (by omega) (by omega)
  have s12 : k3 b = ⟨_, false⟩ := s12
  obtain ⟨s13, v13⟩ := numS' (m := 1048576) (z := (cI h.c 57).toNat) s12 (by omega) (by omega)
  have s13 : k4 b = ⟨_, false⟩ := s13
  obtain ⟨s14, v14⟩ := numS' (m := 1048576) (z := (cI h.c 58).toNat) s13 (by omega) (by omega)
  have s14 : k5 b = ⟨_, false⟩ := s14
  obtain ⟨s15, v15⟩ := numS' (m := 1048576) (z := (cI h.c 59).toNat) s14 (by omega) (by omega)
  have s15 : k6 b = ⟨_, false⟩ := s15
  obtain ⟨s16, v16⟩ := rawS' (n := 32) (l := segI h.c 60 32) s15 (by rw [segI_len]; rfl)
  have s16 : p15 b = ⟨_, false⟩ := s16
  obtain ⟨s17, v17⟩ := numS' (m := 2064) (z := (cI h.c 92).toNat) s16 (by omega) (by omega)
  have s17 : p16 b = ⟨_, false⟩ := s17
  obtain ⟨s18, v18⟩ := rawS' (n := 32) (l := segI h.c 93 32) s17 (by rw [segI_len]; rfl)
  have s18 : p17 b = ⟨_, false⟩ := s18
  have q0 : cI (prH b).c 0 = cI h.c 0 := (c_0 b).trans (v1.trans (by omega))
  have q1 : cI (prH b).c 1 = cI h.c 1 := (c_1 b).trans (v2.trans (by omega))
  have q34 : cI (prH b).c 34 = cI h.c 34 := (c_34 b).trans (v4.trans (by omega))
  have q36 : cI (prH b).c 36 = cI h.c 36 := (c_36 b).trans (v6.trans (by omega))
  have q54 : cI (prH b).c 54 = cI h.c 54 := (c_54 b).trans (v10.trans (by omega))
  have q55 : cI (prH b).c 55 = cI h.c 55 := (c_55 b).trans (v11.trans (by omega))
  have q56 : cI (prH b).c 56 = cI h.c 56 := (c_56 b).trans (v12.trans (by omega))
  have q57 : cI (prH b).c 57 = cI h.c 57 := (c_57 b).trans (v13.trans (by omega))
  have q58 : cI (prH b).c 58 = cI h.c 58 := (c_58 b).trans (v14.trans (by omega))
  have q59 : cI (prH b).c 59 = cI h.c 59 := (c_59 b).trans (v15.trans (by omega))
  have q92 : cI (prH b).c 92 = cI h.c 92 := (c_92 b).trans (v17.trans (by omega))
  have q35 : cB (prH b).c 35 = cB h.c 35 := (c_35 b).trans v5
  have g1 : segI (prH b).c 2 32 = segI h.c 2 32 := (c_2 b).trans (by rw [show vRaw 32 (p2 b) = _ from v3]; exact padN_id (segI_len _ _ _))
  have g2 : segI (prH b).c 37 16 = segI h.c 37 16 := (c_37 b).trans (by rw [show vRaw 16 (p6 b) = _ from v7]; exact padN_id (segI_len _ _ _))
  have g3 : segI (prH b).c 60 32 = segI h.c 60 32 := (c_60 b).trans (by rw [show vRaw 32 (k6 b) = _ from v16]; exact padN_id (segI_len _ _ _))
  have g4 : segI (prH b).c 93 32 = segI h.c 93 32 := (c_93 b).trans (by rw [show vRaw 32 (p16 b) = _ from v18]; exact padN_id (segI_len _ _ _))
  exact ⟨⟨q0, q1, q34, q35, q36, q54, q55, q56, q57, q58, q59, q92⟩, ⟨g1, g2, g3, g4⟩, vT⟩
theorem row_ext : ∀ {a b : List Value} {ks : List Kd}, rowOK a ks → rowOK b ks → (∀ k ∈ ks, (∃ i, k = .int i) ∨ k = .bool) → (∀ k, cI a k = cI b k) → (∀ k, cB a k = cB b k) → a = b
  | [], [], [], _, _, _, _, _ => rfl
  | x :: a, y :: b, k :: ks, ha, hb, hk, h1, h2 => by
    have e : a = b := row_ext ha.2 hb.2 (fun k h => hk k (List.mem_cons_of_mem _ h)) (fun k => h1 (k + 1)) (fun k => h2 (k + 1))
    have i0 := h1 0
    have b0 := h2 0
    have hx := ha.1
    have hy := hb.1
    rw [e]
    congr 1
    rcases hk k (List.mem_cons_self ..) with ⟨i, rfl⟩ | rfl
    · cases x <;> simp [valIs] at hx
      cases y <;> simp [valIs] at hy
      subst hx; subst hy
      simp [cI, valI] at i0
      rw [i0]
    · cases x <;> simp [valIs] at hx
      cases y <;> simp [valIs] at hy
      simp [cB, valB] at b0
      rw [b0]
  | [], _ :: _, [], _, hb, _, _, _ => False.elim hb
  | _ :: _, _, [], ha, _, _, _, _ => False.elim ha
  | [], _, _ :: _, ha, _, _, _, _ => False.elim ha
  | _ :: _, [], _ :: _, _, hb, _, _, _ => False.elim hb
theorem rowOK_set : ∀ {l : List Value} {ks : List Kd} {n : Nat} {v : Value} {k : Kd}, rowOK l ks → valIs (some v) k = true → rowOK (l.set n v) (ks.set n k)
  | [], [], _, _, _, _, _ => trivial
  | _ :: _, _ :: _, 0, _, _, h, hv => ⟨hv, h.2⟩
  | _ :: _, _ :: _, n + 1, _, _, h, hv => ⟨h.1, rowOK_set (n := n) h.2 hv⟩
  | [], _ :: _, _, _, _, h, _ => False.elim h
  | _ :: _, [], _, _, _, h, _ => False.elim h
theorem seg_at {a b : List Value} {i n : Nat} (h : segI a i n = segI b i n) : ∀ j, j < n → cI a (i + j) = cI b (i + j) := by
  intro j hj
  have := congrArg (fun l => l[j]?) h
  unfold segI at this
  simpa [List.getElem?_map, List.getElem?_range hj] using this
theorem rowOK_len : ∀ {l : List Value} {ks : List Kd}, rowOK l ks → l.length = ks.length
  | [], [], _ => rfl
  | _ :: _, _ :: _, h => by rw [List.length_cons, List.length_cons, rowOK_len h.2]
  | [], _ :: _, h => False.elim h
  | _ :: _, [], h => False.elim h
theorem rowOK_cI {l : List Value} {ks : List Kd} (h : rowOK l ks) {k : Nat} (hk : ks[k]? = some .bool) : cI l k = 0 := by
  obtain ⟨v, hv, hi⟩ := rowOK_get h hk
  unfold cI
  rw [hv]
  cases v <;> simp [valIs] at hi
  rfl
theorem rowOK_cB {l : List Value} {ks : List Kd} (h : rowOK l ks) {k : Nat} {i : IntKind} (hk : ks[k]? = some (.int i)) : cB l k = false := by
  obtain ⟨v, hv, hi⟩ := rowOK_get h hk
  unfold cB
  rw [hv]
  cases v <;> simp [valIs] at hi
  rfl
def hkb : List Kd := hkd.set 53 .bool
theorem hkb_kinds : ∀ k, k < 125 → k ≠ 35 → k ≠ 53 → ∃ i, hkb[k]? = some (.int i) := by
  have h : ((List.range 125).all fun k => k == 35 || k == 53 || (match hkb[k]? with | some (.int _) => true | _ => false)) = true := by kernel_rfl
  intro k hk h1 h2
  have := List.all_eq_true.1 h k (List.mem_range.2 hk)
  simp only [Bool.or_eq_true, beq_iff_eq] at this
  rcases this with (e | e) | e
  · exact absurd e h1
  · exact absurd e h2
  · split at e
    · rename_i i he; exact ⟨i, he⟩
    · cases e
theorem hkb_all : ∀ k ∈ hkb, (∃ i, k = .int i) ∨ k = .bool := by
  have h : (hkb.all fun k => match k with | .int _ => true | .bool => true | _ => false) = true := by kernel_rfl
  intro k hk
  have := List.all_eq_true.1 h k hk
  cases k <;> simp at this
  · exact Or.inl ⟨_, rfl⟩
  · exact Or.inr rfl
theorem prH_id {R : Hl} {row : List Value} {h : Hd} (hx : IsHd R row h) (hF : h.Form) : prH (hdB h) = h := by
  obtain ⟨⟨q0, q1, q34, q35, q36, q54, q55, q56, q57, q58, q59, q92⟩, ⟨g1, g2, g3, g4⟩, vT⟩ := lawQ hx hF
  have k35 : hkb[35]? = some .bool := by kernel_rfl
  have k53 : hkb[53]? = some .bool := by kernel_rfl
  have o1 : rowOK (prH (hdB h)).c hkb := by
    have := rowOK_set (n := 53) (v := .bool false) (k := .bool) (hdRow_ok (hdB h) (u := .slice none 0 0) rfl) rfl
    obtain ⟨L, B, hl, e⟩ := hd_split (hdB h)
    rw [e, List.set_append_right _ _ (by omega), hl] at this
    show rowOK (hdRow (hdB h) (.bool false)) hkb
    rw [e]; exact this
  have o2 : rowOK h.c hkb := by
    rw [hx.core]; exact rowOK_set hx.ok rfl
  have hc : (prH (hdB h)).c = h.c := by
    refine row_ext o1 o2 hkb_all (fun k => ?_) (fun k => ?_)
    · by_cases hk : k < 125
      · have s1 := seg_at g1
        have s2 := seg_at g2
        have s3 := seg_at g3
        have s4 := seg_at g4
        have : k = 0 ∨ k = 1 ∨ (2 ≤ k ∧ k < 34) ∨ k = 34 ∨ k = 35 ∨ k = 36 ∨ (37 ≤ k ∧ k < 53) ∨ k = 53 ∨ k = 54 ∨ k = 55 ∨ k = 56 ∨ k = 57 ∨ k = 58 ∨ k = 59 ∨ (60 ≤ k ∧ k < 92) ∨ k = 92 ∨ (93 ≤ k ∧ k < 125) := by omega
        rcases this with e | e | e | e | e | e | e | e | e | e | e | e | e | e | e | e | e
        · rw [e]; exact q0
        · rw [e]; exact q1
        · have := s1 (k - 2) (by omega); rwa [show 2 + (k - 2) = k by omega] at this
        · rw [e]; exact q34
        · rw [e, rowOK_cI o1 k35, rowOK_cI o2 k35]
        · rw [e]; exact q36
        · have := s2 (k - 37) (by omega); rwa [show 37 + (k - 37) = k by omega] at this
        · rw [e, rowOK_cI o1 k53, rowOK_cI o2 k53]
        · rw [e]; exact q54
        · rw [e]; exact q55
        · rw [e]; exact q56
        · rw [e]; exact q57
        · rw [e]; exact q58
        · rw [e]; exact q59
        · have := s3 (k - 60) (by omega); rwa [show 60 + (k - 60) = k by omega] at this
        · rw [e]; exact q92
        · have := s4 (k - 93) (by omega); rwa [show 93 + (k - 93) = k by omega] at this
      · have hl : hkb.length = 125 := by kernel_rfl
        have l1 := rowOK_len o1
        have l2 := rowOK_len o2
        unfold cI
        rw [List.getElem?_eq_none (by omega), List.getElem?_eq_none (by omega)]
    · by_cases hk : k < 125
      · by_cases h35 : k = 35
        · rw [h35]; exact q35
        · by_cases h53 : k = 53
          · rw [h53, hx.core]
            have hl : row.length = 125 := by rw [rowOK_len hx.ok]; kernel_rfl
            obtain ⟨L, B, hl', e⟩ := hd_split (hdB h)
            show cB (hdRow (hdB h) (.bool false)) 53 = _
            unfold cB
            rw [e, List.getElem?_append_right (by omega), hl', List.getElem?_set_self (by omega)]
            rfl
          · obtain ⟨i, hi⟩ := hkb_kinds k hk h35 h53
            rw [rowOK_cB o1 hi, rowOK_cB o2 hi]
      · have hl : hkb.length = 125 := by kernel_rfl
        have l1 := rowOK_len o1
        have l2 := rowOK_len o2
        unfold cB
        rw [List.getElem?_eq_none (by omega), List.getElem?_eq_none (by omega)]
  cases h with
  | mk c t =>
    have e1 : (prH (hdB ⟨c, t⟩)).c = c := hc
    have e2 : (prH (hdB ⟨c, t⟩)).t = t := vT
    generalize prH (hdB ⟨c, t⟩) = z at e1 e2
    cases z
    simp only at e1 e2
    rw [e1, e2]
theorem hd_inj {R R' : Hl} {row row' : List Value} {h h' : Hd} (hx : IsHd R row h) (hF : h.Form) (hx' : IsHd R' row' h') (hF' : h'.Form) (e : hdB h = hdB h') : h = h' := by
  rw [← prH_id hx hF, ← prH_id hx' hF', e]
end Go.Proofs.YtomdimlnggpgbaaDoor
namespace Go.Proofs.YtomdimlnggpgbaaDoor
open Go Go.Sx Go.Pk
def normV : Value → Prop
  | .slice (some ⟨_, _, some _⟩) _ _ => False
  | .pointer (some ⟨_, _, some _⟩) => False
  | _ => True
def noMaps : List Ck → Bool
  | [] => true
  | .map :: _ => false
  | _ :: l => noMaps l
theorem slP_norm {x y : Int} (h : ∀ a b c, slP x y ≠ some ⟨a, b, some c⟩) : -1 ≤ x := by
  unfold slP at h
  split at h
  · omega
  · split at h
    · omega
    · exact absurd rfl (h _ _ _)
theorem norm_up {n : Nat} {ρ : Env} {k : Ck} (hk : k ≠ .map) (h : ckNormW n ρ k) (hv : normV ((k.cv n).ev ρ)) : ckNorm n ρ k := by
  cases k with
  | ptr =>
    refine ⟨slP_norm (y := ρ.i (n + 1)) fun a b c e => ?_, h.2⟩
    have hv : normV (.pointer (slP (ρ.i n) (ρ.i (n + 1)))) := hv
    rw [e] at hv; exact hv
  | sl =>
    refine ⟨slP_norm (y := ρ.i (n + 1)) fun a b c e => ?_, h.2⟩
    have hv : normV (.slice (slP (ρ.i n) (ρ.i (n + 1))) (ρ.i (n + 2)).toNat (ρ.i (n + 3)).toNat) := hv
    rw [e] at hv; exact hv
  | map => exact absurd rfl hk
  | _ => trivial
theorem norms_up {ρ : Env} : ∀ (ks : List Ck) (n : Nat), noMaps ks = true → ckNormsW n ks ρ → (∀ v ∈ (ckCVs n ks).map (CV.ev ρ), normV v) → ckNorms n ks ρ
  | [], _, _, _, _ => trivial
  | k :: ks, n, hm, h, hv => by
    have hk : k ≠ .map := by rintro rfl; simp [noMaps] at hm
    have hm' : noMaps ks = true := by cases k <;> first | exact hm | exact absurd rfl hk
    exact ⟨norm_up hk h.1 (hv _ (List.mem_cons_self ..)), norms_up ks _ hm' h.2 fun v h => hv v (List.mem_cons_of_mem _ h)⟩
theorem shape_row {ks : List Ck} {row : List Value} (h : rowOK row (ks.map kdOf)) (hm : noMaps ks = true) (hv : ∀ v ∈ row, normV v) : ∃ ρ2, TV.ev ρ2 (cpTV 0 [.agg ks]) = .agg row.toArray ∧ cpNorms 0 [.agg ks] ρ2 := by
  obtain ⟨q, _, hn, e⟩ := row_rep ks 0 row ⟨fun _ => 0, fun _ => false, fun _ => .empty, fun _ => .tuple #[], fun _ => Hl.none⟩ h
  refine ⟨q, ?_, norms_up ks 0 hm hn (by rw [e]; exact hv), trivial⟩
  show Value.agg ((ckCVs 0 ks).map (CV.ev q)).toArray = _
  rw [e]
theorem shape_row_int {ks : List Ck} {row : List Value} {k : IntKind} (z : Int) (h : rowOK row (ks.map kdOf)) (hm : noMaps ks = true) (hv : ∀ v ∈ row, normV v) : ∃ ρ2, TV.ev ρ2 (cpTV 0 [.agg ks, .one (.int k)]) = .tuple #[.agg row.toArray, .int k z] ∧ cpNorms 0 [.agg ks, .one (.int k)] ρ2 := by
  obtain ⟨q, _, hn, e⟩ := row_rep ks 0 row ⟨fun _ => 0, fun _ => false, fun _ => .empty, fun _ => .tuple #[], fun _ => Hl.none⟩ h
  have ag : Agree (0 + ckLen ks) q (q.setI (0 + ckLen ks) z) := agree_setI q _ z (Nat.le_refl _)
  have e2 : (ckCVs 0 ks).map (CV.ev (q.setI (0 + ckLen ks) z)) = row := by rw [ag_row ag (Nat.le_refl _)]; exact e
  have hn2 : ckNormsW 0 ks (q.setI (0 + ckLen ks) z) := ckNormsW_agree ag ks 0 (Nat.le_refl _) hn
  refine ⟨q.setI (0 + ckLen ks) z, ?_, norms_up ks 0 hm hn2 (by rw [e2]; exact hv), trivial, trivial⟩
  show Value.tuple #[.agg ((ckCVs 0 ks).map (CV.ev (q.setI (0 + ckLen ks) z))).toArray, .int k ((q.setI (0 + ckLen ks) z).i (0 + ckLen ks))] = _
  rw [e2]
  congr 3
  simp [Env.setI]
theorem normV_bp {x y l c : Int} (h : -1 ≤ x) : normV (.slice (slP x y) l.toNat c.toNat) := by
  rcases Int.lt_or_le x 0 with h' | h'
  · obtain rfl : x = -1 := by omega
    trivial
  · rw [slP_pos h']; trivial
def pText (m : Int) (s : PS) : PS := ⟨(inText s.l s.bad m).2.1, (inText s.l s.bad m).2.2⟩
def vText (m : Int) (s : PS) : List Int := (inText s.l s.bad m).1
section
variable {s : PS}
theorem textA {m : Int} (hb : bytes256 s.l) (h : (pText m s).bad = false) : s.bad = false ∧ s.l = textBytes (vText m s) ++ (pText m s).l ∧ ((vText m s).length : Int) ≤ m ∧ (vText m s).length ≤ 4096 := by
  unfold pText vText inText at *
  split at h
  · cases h
  · rename_i hc
    rw [if_neg hc]
    have h1 : s.bad = false := by
      cases hs : s.bad
      · rfl
      · exact absurd (Or.inl hs) hc
    have h2 : (numR s.l).2 ≠ 0 := fun e => hc (Or.inr (Or.inl e))
    have h3 : ¬ min (min m 4096) ((s.l.length : Int) - (numR s.l).2) < ((numR s.l).1 : Int) := fun e => hc (Or.inr (Or.inr (Or.inr e)))
    cases hn : numAt s.l with
    | none => unfold numR at h2; rw [hn] at h2; exact absurd rfl h2
    | some r =>
      obtain ⟨x, k⟩ := r
      obtain ⟨_, hk, h6, h7⟩ := numAt_dec hb hn
      have e : numR s.l = (x, k) := by unfold numR; rw [hn]; rfl
      rw [e] at h3 ⊢
      simp only at h3
      have hl : ((s.l.drop k).take x).length = x := by rw [List.length_take, List.length_drop]; omega
      refine ⟨h1, ?_, by show (((s.l.drop k).take x).length : Int) ≤ m; omega, by show ((s.l.drop k).take x).length ≤ 4096; omega⟩
      show s.l = textBytes ((s.l.drop k).take x) ++ s.l.drop (k + x)
      unfold textBytes
      rw [hl, ← h6, List.append_assoc, ← List.drop_drop, List.take_append_drop, List.take_append_drop]
theorem textBk {m : Int} {b t : List Int} (h1 : (b.length : Int) ≤ m) (h2 : b.length ≤ 4096) : pText m ⟨textBytes b ++ t, false⟩ = ⟨t, false⟩ ∧ vText m ⟨textBytes b ++ t, false⟩ = b := by
  have e : numR (textBytes b ++ t) = (b.length, (numB b.length).length) := by
    unfold numR textBytes
    rw [List.append_assoc, numAt_enc (by omega)]; rfl
  have hp := numB_pos b.length
  have hl : (textBytes b ++ t).length = (numB b.length).length + (b.length + t.length) := by unfold textBytes; simp only [List.length_append]; omega
  have hc : ¬ ((false : Bool) = true ∨ (numR (textBytes b ++ t)).2 = 0 ∨ m < 0 ∨ min (min m 4096) (((textBytes b ++ t).length : Int) - (numR (textBytes b ++ t)).2) < ((numR (textBytes b ++ t)).1 : Int)) := by
    rw [e, hl]
    simp only
    rintro (x | x | x | x)
    · cases x
    · omega
    · omega
    · omega
  unfold pText vText inText
  rw [if_neg hc, e]
  have d : (textBytes b ++ t).drop (numB b.length).length = b ++ t := by unfold textBytes; rw [List.append_assoc, List.drop_left]
  refine ⟨?_, ?_⟩
  · show PS.mk ((textBytes b ++ t).drop ((numB b.length).length + b.length)) false = _
    rw [← List.drop_drop, d, List.drop_left]
  · show ((textBytes b ++ t).drop (numB b.length).length).take b.length = b
    rw [d, List.take_left]
theorem text256 {m : Int} (hb : bytes256 s.l) : bytes256 (pText m s).l ∧ bytes256 (vText m s) := by
  unfold pText vText inText
  split
  · exact ⟨hb, fun z h => by cases h⟩
  · exact ⟨bytes_drop hb _, fun z hz => hb z (List.mem_of_mem_drop (List.mem_of_mem_take hz))⟩
theorem vText_len {m : Int} : (vText m s).length ≤ 4096 := by
  unfold vText inText
  split
  · simp
  · rename_i hc
    have h3 : ¬ min (min m 4096) ((s.l.length : Int) - (numR s.l).2) < ((numR s.l).1 : Int) := fun e => hc (Or.inr (Or.inr (Or.inr e)))
    show ((s.l.drop _).take _).length ≤ 4096
    rw [List.length_take]; omega
end
section
variable {q : Env} {n : Nat} {p : Value} {H : Hl} {s : PS} {K : Env → Prop}
theorem bp_of1 {F : Hl} {q' : Env} {B : List Int} {m : Nat} (hO : OwB F 5 (.slice (slP (q'.i n) (q'.i (n + 1))) (q'.i (n + 2)).toNat (q'.i (n + 3)).toNat) B) (hF : True → q'.h (n + 1) = F) (hn : cpNorms n [.one .sl] q') (hm : B.length ≤ m) : BP (q'.h (n + 1)) (q'.i n) (q'.i (n + 1)) (q'.i (n + 2)) (q'.i (n + 3)) B m := by
  have hn : -1 ≤ q'.i n ∧ 0 ≤ q'.i (n + 1) ∧ 0 ≤ q'.i (n + 2) ∧ 0 ≤ q'.i (n + 3) := hn.1
  rw [← hF trivial] at hO
  have e : (q'.i (n + 2)).toNat = B.length := by
    obtain ⟨x, y, c, e, _⟩ := hO.rd
    simp only [Value.slice.injEq] at e
    exact e.2.1
  exact ⟨hO, by omega, hn.1, hn.2.1, hn.2.2.2, hm⟩
theorem iText {m : Int} (h : InP H p s) (hm : m ≤ 1000000) (k : ∀ q', Agree n q q' → InP (q'.h n) p (pText m s) → BP (q'.h (n + 1)) (q'.i n) (q'.i (n + 1)) (q'.i (n + 2)) (q'.i (n + 3)) (vText m s) 4096 → K q') :
    textS.pre [p, .int .i64 m] [H] [] ∧ ∀ q', Agree n q q' → (∃ F, textS.post [p, .int .i64 m] [H] [] (.slice (slP (q'.i n) (q'.i (n + 1))) (q'.i (n + 2)).toNat (q'.i (n + 3)).toNat) [q'.h n] F ∧ (True → q'.h (n + 1) = F) ∧ cpNorms n [.one .sl] q') → K q' := by
  refine ⟨⟨_, m, H, s.l, s.bad, rfl, rfl, h, hm⟩, fun q' g ⟨F, ⟨p', m', H1, bs, bad, H', e1, e2, hO, e3, hO', hv⟩, hF, hn⟩ => ?_⟩
  simp only [List.cons.injEq, Value.int.injEq, true_and, and_true] at e1 e2 e3
  obtain ⟨e1, em⟩ := e1
  subst e1 em e2
  obtain ⟨e4, e5⟩ := h.uniq hO
  subst e4 e5
  rw [← e3] at hO'
  exact k q' g hO' (bp_of1 hv hF hn vText_len)
end
def PdHd (t : List Int) (h : Hd) : Prop := (h.Form ∧ hdB h = t) ∨ (h = hz ∧ ∀ R row h', IsHd R row h' → h'.Form → hdB h' ≠ t)
theorem hz_not : ¬ hz.Form := by
  intro h
  have := h.1.1.1
  have e : cI hz.c 0 = 0 := by kernel_rfl
  rw [e] at this; omega
def pPc (s : PS) : PS := pText 4096 (pText 4096 s)
noncomputable def takePcS : Sx.Spec where
  fn := 51
  own := [.arg 0]
  rd := []
  res := [.agg pk2]
  pre := fun xs Hs Rs => ∃ p H s, xs = [p] ∧ Hs = [H] ∧ InP H p s
  post := fun xs Hs Rs v Hs' F => ∃ p H s H' row c, xs = [p] ∧ Hs = [H] ∧ InP H p s ∧ Hs' = [H'] ∧ InP H' p (pPc s) ∧ v = .agg row.toArray ∧ IsPc F F row c ∧ PdHd (vText 4096 s) c.h ∧ c.b = vText 4096 (pText 4096 s)
noncomputable def tkΓ : List Sx.Spec := [readPS, numS, flagS, rawS, overS, textS, parseS]
theorem tkΓ_ok : ∀ t ∈ tkΓ, t.OK Tryd.prog := fun t ht => by
  simp only [tkΓ, List.mem_cons, List.mem_nil_iff, or_false] at ht
  rcases ht with rfl | rfl | rfl | rfl | rfl | rfl | rfl
  · exact readPS_ok
  · exact numS_ok
  · exact flagS_ok
  · exact rawS_ok
  · exact overS_ok
  · exact textS_ok
  · exact parseS_ok
def takePcNd : Nd := .ext (.alloc 2) (.and (.pre (.call 5 3 [.sv (.one (.hptr (.var 0) (.lit 0))), .sv (.one (.int .i64 (.lit 4096)))] [.hp 1 [] [.var 0] []] [])) (.ext (.call 5 3 [.sv (.one (.hptr (.var 0) (.lit 0))), .sv (.one (.int .i64 (.lit 4096)))] [.hp 1 [] [.var 0] []] []) (.and (.pre (.call 6 7 [.sv (.one (.sl (.var 3) (.var 4) (.var 5) (.var 6)))] [] [.hp 4 [] [.var 3] []])) (.ext (.call 6 7 [.sv (.one (.sl (.var 3) (.var 4) (.var 5) (.var 6)))] [] [.hp 4 [] [.var 3] []]) (.ext (.alloc 136) (.and (.pre (.call 5 137 [.sv (.one (.hptr (.var 0) (.lit 0))), .sv (.one (.int .i64 (.lit 4096)))] [.hp 3 [1] [.var 0] []] [])) (.ext (.call 5 137 [.sv (.one (.hptr (.var 0) (.lit 0))), .sv (.one (.int .i64 (.lit 4096)))] [.hp 3 [1] [.var 0] []] []) (.post [.hp 137 [3, 1] [.var 0] [], .dead, .hp 4 [] [.var 3] [], .hp 7 [] [.var 60] [], .dead, .hp 138 [] [.var 137] []] (.sv (.agg (ckCVs 7 hk2 ++ [.sl (.var 137) (.var 138) (.var 139) (.var 140)])))))))))))
noncomputable def takePcW : Walk Tryd.prog tkΓ 51 where
  Λ := noLoops
  args := [TP (.var 0) (.lit 0)]
  mem := [.hp 1 [] [.var 0] []]
  nv := 2
  nd := takePcNd
  ok := by kernel_rfl
theorem tkg1 : tkΓ[1]? = some numS := rfl
theorem tkg5 : tkΓ[5]? = some textS := rfl
theorem tkg6 : tkΓ[6]? = some parseS := rfl
theorem tkr5 : textS.res = [.one .sl] := rfl
theorem tkr6 : parseS.res = [.agg hk2, .one (.int .i64)] := rfl
theorem hd_norm {q : Env} {n : Nat} (h : cpNorms n [.agg hk2, .one (.int .i64)] q) : -1 ≤ q.i (n + 53) ∧ 0 ≤ q.i (n + 54) ∧ 0 ≤ q.i (n + 55) ∧ 0 ≤ q.i (n + 56) := by
  have h : ckNorms n hk2 q := h.1
  have e : hk2 = hk2.take 53 ++ (.sl :: hk2.drop 54) := by kernel_rfl
  have g : ∀ (a b : List Ck) (n : Nat), ckNorms n (a ++ b) q → ckNorms (n + ckLen a) b q := by
    intro a
    induction a with
    | nil => intro b n h; simpa [ckLen] using h
    | cons k a ih =>
      intro b n h
      have := ih b (n + k.len) h.2
      rw [show n + k.len + ckLen a = n + ckLen (k :: a) by simp [ckLen]; omega] at this
      exact this
  rw [e] at h
  have h := g _ _ _ h
  rw [show ckLen (hk2.take 53) = 53 by kernel_rfl] at h
  exact h.1
theorem hrow_norm {q : Env} {n : Nat} (h : -1 ≤ q.i (n + 53)) : ∀ v ∈ hrow q n, normV v := by
  intro v hv
  have e : hrow q n = (ckCVs n (hk2.take 53)).map (CV.ev q) ++ (.slice (slP (q.i (n + 53)) (q.i (n + 54))) (q.i (n + 55)).toNat (q.i (n + 56)).toNat :: (ckCVs (n + 57) (hk2.drop 54)).map (CV.ev q)) := by kernel_rfl
  have g : ∀ (ks : List Ck) (m : Nat), (ks.all fun k => match k with | .int _ => true | .bool => true | _ => false) = true → ∀ v ∈ (ckCVs m ks).map (CV.ev q), normV v := by
    intro ks
    induction ks with
    | nil => intro m _ v hv; cases hv
    | cons k ks ih =>
      intro m hk v hv
      rw [List.all_cons, Bool.and_eq_true] at hk
      rcases List.mem_cons.1 hv with rfl | hv
      · cases k <;> first | trivial | (simp at hk)
      · exact ih _ hk.2 v hv
  rw [e] at hv
  rcases List.mem_append.1 hv with hv | hv
  · exact g _ _ (by kernel_rfl) v hv
  · rcases List.mem_cons.1 hv with rfl | hv
    · exact normV_bp h
    · exact g _ _ (by kernel_rfl) v hv
theorem roots_hd : (cpRoots 0 [Cp.agg hk2, Cp.one (Ck.int .i64)] ≠ []) = True := by
  have e : cpRoots 0 [Cp.agg hk2, Cp.one (Ck.int .i64)] = [.var 53] := by kernel_rfl
  rw [e]; simp
theorem tuple2 {a b c d : Value} (h : Value.tuple #[a, b] = .tuple #[c, d]) : a = c ∧ b = d := by
  simp only [Value.tuple.injEq, Array.mk.injEq, List.cons.injEq, and_true] at h
  exact h
theorem takePcS_ok : takePcS.OK Tryd.prog := by
  refine Spec.of_fn (Γ := tkΓ) tkΓ_ok ?_
  rintro xs Hs Rs hl1 hl2 ⟨p, H, s, rfl, rfl, h⟩
  have e1 : Rs = [] := List.length_eq_zero_iff.1 hl2
  subst e1
  obtain ⟨a, x, y, c, F0, rfl, hin⟩ := id h
  refine ⟨takePcW, envI [(a : Int)] false [Hl.none, H], fun _ _ => True, fun _ _ => 0, ?_, ⟨?_, ?_, ?_, ?_⟩, (fun _ h => nomatch h), ?_⟩
  · show [Value.pointer (slP (a : Int) 0)] = _
    rw [ptr0]
  · intro r hr ho; simp [takePcW] at hr; subst hr; exact ⟨H, by simp, Hl.le_refl _⟩
  · intro r hr ho; simp [takePcW] at hr; subst hr; cases ho
  · simp [takePcW]
  · intro r hr; simp [takePcW] at hr; subst hr; trivial
  · show Nd.holds _ _ _ takePcNd
    generalize hρ : envI [(a : Int)] false [Hl.none, H] = ρ
    have w0 : ρ.i 0 = a := by rw [← hρ]; rfl
    have w1 : ρ.h 1 = H := by rw [← hρ]; rfl
    clear hρ
    unfold takePcNd
    simp only [Nd.holds, X.pre, X.rel, X.n, Src.ok, Src.len, Src.vals, true_and, and_true, if_true, Nat.mul_one, Nat.add_zero, Nat.reduceAdd, List.length_cons, List.length_nil, bT_tt, bT_ff, bT_bvar, bT_not, bT_and, bT_or, bT_ite, bT_lt, bT_le, bT_eq, bT_beq, bT_seq, bT_hB, bT_his, bT_hby, bT_hism, bT_hks, iev_lit, iev_var, iev_add, iev_sub, iev_mul, iev_wrap, iev_ite, iev_hI, iev_hP, iev_hmlen, sev_ite, sev_slit, sev_sof, sev_svar, TV.ev, SV.ev, CV.ev, List.map_cons, List.map_nil, Res.hl, cpTV, Cp.sv, Ck.cv, cpSVs, Cp.len, Ck.len, newHs_zero, newHs_one, roots_ne, tkg5, tkg6, tkr5, tkr6, rcc0, ckLen_hk, roots_hd, Nat.reduceAdd]
    intro q0 g0 _
    simp only [g0.i, g0.h, Nat.reduceLT, w0, w1, ptr0]
    refine iText h (by omega) fun q1 g1 h1 B1 => ?_
    refine ⟨⟨_, vText 4096 s, _, rfl, rfl, B1.rd.w, (text256 hin.byte).2, Nat.le_trans vText_len (by omega)⟩, fun q2 g2 ⟨F2, hp, hF2, hn2⟩ q3 g3 _ => ?_⟩
    simp only [g3.i, g3.h, g2.i, g2.h, g1.i, g1.h, g0.i, g0.h, Nat.reduceLT, w0, w1, ptr0]
    have l1 : bytes256 (pText 4096 s).l := (text256 hin.byte).1
    refine iText h1 (by omega) fun q4 g4 h4 B4 => ?_
    obtain ⟨u', bs', R', e1, e2, hR, hpd⟩ := hp
    simp only [List.cons.injEq, and_true] at e1 e2
    subst e1 e2
    obtain rfl := B1.rd.w.uniq hR
    have hF2 : q2.h 7 = F2 := hF2 trivial
    have hn2 := hd_norm hn2
    have g24 : Agree 136 q2 q4 := g3.trans (g4.mono (by omega))
    have ehr : hrow q4 7 = hrow q2 7 := ag_row (a := 7) g24 (by rw [ckLen_hk]; omega)
    obtain ⟨h', hx', hpd'⟩ : ∃ h', IsHd F2 (hrow q2 7) h' ∧ PdHd (vText 4096 s) h' := by
      rcases hpd with ⟨row, h', hv, hx, hf, hb⟩ | ⟨hv, hno⟩
      · have hv : Value.tuple #[.agg (hrow q2 7).toArray, .int .i64 (q2.i 135)] = .tuple #[.agg row.toArray, .int .i64 0] := hv
        have e : hrow q2 7 = row := List.toArray_inj (Value.agg.inj (tuple2 hv).1)
        rw [← e] at hx
        exact ⟨h', hx, Or.inl ⟨hf, hb⟩⟩
      · have hv : Value.tuple #[.agg (hrow q2 7).toArray, .int .i64 (q2.i 135)] = .tuple #[.agg zrow.toArray, .int .i64 2] := hv
        have e : hrow q2 7 = zrow := List.toArray_inj (Value.agg.inj (tuple2 hv).1)
        rw [e]
        exact ⟨hz, hz_is _, Or.inr ⟨rfl, hno⟩⟩
    have erow : (ckCVs 7 hk2 ++ [CV.sl (E.var 137) (E.var 138) (E.var 139) (E.var 140)]).map (CV.ev q4) = hrow q2 7 ++ [.slice (slP (q4.i 137) (q4.i 138)) (q4.i 139).toNat (q4.i 140).toNat] := by
      rw [List.map_append, show (ckCVs 7 hk2).map (CV.ev q4) = hrow q2 7 from ehr]; rfl
    have hl : (hrow q2 7).length = 125 := by kernel_rfl
    intro hdis
    have hd := hdis 3 5 _ _ (by decide) rfl rfl rfl
    have hd : (q4.h 7).dis (q4.h 138) := hd
    rw [g24.h 7 (by omega), hF2] at hd
    have eF : uni q4 [.hp 137 [3, 1] [.var 0] [], .dead, .hp 4 [] [.var 3] [], .hp 7 [] [.var 60] [], .dead, .hp 138 [] [.var 137] []] [3, 5] = F2.un (q4.h 138) := by
      show hls [q4.h 7, q4.h 138] = _
      rw [g24.h 7 (by omega), hF2]
      show F2.un ((q4.h 138).un Hl.none) = _
      rw [Hl.un_none]
    have hpc : IsPc (F2.un (q4.h 138)) (F2.un (q4.h 138)) (hrow q2 7 ++ [.slice (slP (q4.i 137) (q4.i 138)) (q4.i 139).toNat (q4.i 140).toNat]) ⟨h', vText 4096 (pText 4096 s)⟩ := by
      refine ⟨rowOK_app (kb := [.slice]) hx'.ok ⟨rfl, trivial⟩, ?_, ?_, (text256 l1).2, Nat.le_trans vText_len (by omega)⟩
      · rw [List.take_append_of_le_length (by omega), List.take_of_length_le (by omega)]
        exact hx'.mono (Hl.un_left _ _)
      · rw [List.getD_eq_getElem?_getD, List.getElem?_append_right (by omega), hl]
        exact rdW_mono B4.rd.w (Hl.un_right hd)
    obtain ⟨ρ2, hρ2, hnm2⟩ := shape_row (ks := pk2) (row := hrow q2 7 ++ [.slice (slP (q4.i 137) (q4.i 138)) (q4.i 139).toNat (q4.i 140).toNat]) hpc.ok (by kernel_rfl) (fun v hv => by
      rcases List.mem_append.1 hv with hv | hv
      · exact hrow_norm hn2.1 v hv
      · rw [List.mem_singleton] at hv; subst hv; exact normV_bp B4.rx)
    have ev : (TV.sv (.agg (ckCVs 7 hk2 ++ [CV.sl (E.var 137) (E.var 138) (E.var 139) (E.var 140)]))).ev q4 = Value.agg (hrow q2 7 ++ [Value.slice (slP (q4.i 137) (q4.i 138)) (q4.i 139).toNat (q4.i 140).toNat]).toArray := by
      show Value.agg ((ckCVs 7 hk2 ++ [CV.sl (E.var 137) (E.var 138) (E.var 139) (E.var 140)]).map (CV.ev q4)).toArray = _
      rw [erow]
    refine ⟨[[0]], [3, 5], rfl, rfl, ⟨ρ2, ev.trans hρ2.symm, hnm2⟩, _, H, s, q4.h 137, _, ⟨h', vText 4096 (pText 4096 s)⟩, rfl, rfl, h, ?_, h4, ev, ?_, hpd', rfl⟩
    · show [hls [q4.h 137]] = _
      rw [hls_one]
    · rw [eF]; exact hpc
def pNums (m : Int) : Nat → PS → List Int × PS
  | 0, s => ([], s)
  | k + 1, s => (vNum m s :: (pNums m k (pNum m s)).1, (pNums m k (pNum m s)).2)
theorem numsA {m : Int} : ∀ (k : Nat) (s : PS), bytes256 s.l → (pNums m k s).2.bad = false → s.bad = false ∧ s.l = vecB (pNums m k s).1 ++ (pNums m k s).2.l
  | 0, s, _, h => ⟨h, rfl⟩
  | k + 1, s, hb, h => by
    obtain ⟨h1, h2⟩ := numsA k (pNum m s) (num256 hb) h
    obtain ⟨h3, h4, _⟩ := numA hb h1
    refine ⟨h3, ?_⟩
    rw [h4, h2]
    show _ = (numB (vNum m s).toNat ++ vecB (pNums m k (pNum m s)).1) ++ _
    rw [List.append_assoc]; rfl
theorem numsBk {m : Int} : ∀ (vs : List Int) (t : List Int), (∀ v ∈ vs, 0 ≤ v ∧ v ≤ m ∧ v < 18446744073709551616) → pNums m vs.length ⟨vecB vs ++ t, false⟩ = (vs, ⟨t, false⟩)
  | [], t, _ => rfl
  | v :: vs, t, h => by
    have hv := h v (List.mem_cons_self ..)
    have e : vecB (v :: vs) ++ t = numB v.toNat ++ (vecB vs ++ t) := by show (numB v.toNat ++ vecB vs) ++ t = _; rw [List.append_assoc]
    obtain ⟨a1, a2⟩ := numBk (m := m) (z := v.toNat) (t := vecB vs ++ t) (by omega) (by omega)
    show (vNum m _ :: (pNums m vs.length (pNum m _)).1, (pNums m vs.length (pNum m _)).2) = _
    rw [e, a1, a2, numsBk vs t fun w hw => h w (List.mem_cons_of_mem _ hw)]
    simp only [Prod.mk.injEq, List.cons.injEq, and_true]
    omega
theorem nums_len {m : Int} : ∀ (k : Nat) (s : PS), (pNums m k s).1.length = k
  | 0, _ => rfl
  | k + 1, s => by show (_ :: _).length = _; rw [List.length_cons, nums_len]
theorem nums_in {m : Int} (hm : 0 ≤ m) : ∀ (k : Nat) (s : PS), ∀ v ∈ (pNums m k s).1, 0 ≤ v ∧ v ≤ m
  | 0, _, v, h => by cases h
  | k + 1, s, v, h => by
    rcases List.mem_cons.1 h with rfl | h
    · exact vNum_in hm
    · exact nums_in hm k _ v h
theorem nums256 {m : Int} : ∀ (k : Nat) (s : PS), bytes256 s.l → bytes256 (pNums m k s).2.l
  | 0, _, h => h
  | k + 1, s, h => nums256 k _ (num256 h)
def takeVecS : Sx.Spec where
  fn := 50
  own := [.arg 0]
  rd := []
  res := [.agg (List.replicate 6 (.int .u64))]
  pre := fun xs Hs Rs => ∃ p H s, xs = [p] ∧ Hs = [H] ∧ InP H p s
  post := fun xs Hs Rs v Hs' F => ∃ p H s H', xs = [p] ∧ Hs = [H] ∧ InP H p s ∧ Hs' = [H'] ∧ InP H' p (pNums 1048576 6 s).2 ∧ v = .agg (us (pNums 1048576 6 s).1).toArray
def takeVecNd : Nd := .ext (.alloc 2) (.ext (.alloc 3) (.and (.pre (.call 1 4 [.sv (.one (.hptr (.var 0) (.lit 0))), .sv (.one (.int .u64 (.lit 1048576)))] [.hp 1 [] [.var 0] []] [])) (.ext (.call 1 4 [.sv (.one (.hptr (.var 0) (.lit 0))), .sv (.one (.int .u64 (.lit 1048576)))] [.hp 1 [] [.var 0] []] []) (.and (.pre (.call 1 6 [.sv (.one (.hptr (.var 0) (.lit 0))), .sv (.one (.int .u64 (.lit 1048576)))] [.hp 4 [1] [.var 0] []] [])) (.ext (.call 1 6 [.sv (.one (.hptr (.var 0) (.lit 0))), .sv (.one (.int .u64 (.lit 1048576)))] [.hp 4 [1] [.var 0] []] []) (.and (.pre (.call 1 8 [.sv (.one (.hptr (.var 0) (.lit 0))), .sv (.one (.int .u64 (.lit 1048576)))] [.hp 6 [4, 1] [.var 0] []] [])) (.ext (.call 1 8 [.sv (.one (.hptr (.var 0) (.lit 0))), .sv (.one (.int .u64 (.lit 1048576)))] [.hp 6 [4, 1] [.var 0] []] []) (.and (.pre (.call 1 10 [.sv (.one (.hptr (.var 0) (.lit 0))), .sv (.one (.int .u64 (.lit 1048576)))] [.hp 8 [6, 4, 1] [.var 0] []] [])) (.ext (.call 1 10 [.sv (.one (.hptr (.var 0) (.lit 0))), .sv (.one (.int .u64 (.lit 1048576)))] [.hp 8 [6, 4, 1] [.var 0] []] []) (.and (.pre (.call 1 12 [.sv (.one (.hptr (.var 0) (.lit 0))), .sv (.one (.int .u64 (.lit 1048576)))] [.hp 10 [8, 6, 4, 1] [.var 0] []] [])) (.ext (.call 1 12 [.sv (.one (.hptr (.var 0) (.lit 0))), .sv (.one (.int .u64 (.lit 1048576)))] [.hp 10 [8, 6, 4, 1] [.var 0] []] []) (.and (.pre (.call 1 14 [.sv (.one (.hptr (.var 0) (.lit 0))), .sv (.one (.int .u64 (.lit 1048576)))] [.hp 12 [10, 8, 6, 4, 1] [.var 0] []] [])) (.ext (.call 1 14 [.sv (.one (.hptr (.var 0) (.lit 0))), .sv (.one (.int .u64 (.lit 1048576)))] [.hp 12 [10, 8, 6, 4, 1] [.var 0] []] []) (.post [.hp 14 [12, 10, 8, 6, 4, 1] [.var 0] [], .dead, .dead] (.sv (.agg [.int .u64 (.var 4), .int .u64 (.var 6), .int .u64 (.var 8), .int .u64 (.var 10), .int .u64 (.var 12), .int .u64 (.var 14)]))))))))))))))))
noncomputable def takeVecW : Walk Tryd.prog tkΓ 50 where
  Λ := noLoops
  args := [TP (.var 0) (.lit 0)]
  mem := [.hp 1 [] [.var 0] []]
  nv := 2
  nd := takeVecNd
  ok := by kernel_rfl
theorem tkr1 : numS.res = [.one (.int .u64)] := rfl
theorem takeVecS_ok : takeVecS.OK Tryd.prog := by
  refine Spec.of_fn (Γ := tkΓ) tkΓ_ok ?_
  rintro xs Hs Rs hl1 hl2 ⟨p, H, s, rfl, rfl, h⟩
  have e1 : Rs = [] := List.length_eq_zero_iff.1 hl2
  subst e1
  obtain ⟨a, x, y, c, F0, rfl, hin⟩ := id h
  refine ⟨takeVecW, envI [(a : Int)] false [Hl.none, H], fun _ _ => True, fun _ _ => 0, ?_, ⟨?_, ?_, ?_, ?_⟩, (fun _ h => nomatch h), ?_⟩
  · show [Value.pointer (slP (a : Int) 0)] = _
    rw [ptr0]
  · intro r hr ho; simp [takeVecW] at hr; subst hr; exact ⟨H, by simp, Hl.le_refl _⟩
  · intro r hr ho; simp [takeVecW] at hr; subst hr; cases ho
  · simp [takeVecW]
  · intro r hr; simp [takeVecW] at hr; subst hr; trivial
  · show Nd.holds _ _ _ takeVecNd
    generalize hρ : envI [(a : Int)] false [Hl.none, H] = ρ
    have w0 : ρ.i 0 = a := by rw [← hρ]; rfl
    have w1 : ρ.h 1 = H := by rw [← hρ]; rfl
    clear hρ
    unfold takeVecNd
    simp only [Nd.holds, X.pre, X.rel, X.n, Src.ok, Src.len, Src.vals, true_and, and_true, if_true, Nat.mul_one, Nat.add_zero, Nat.reduceAdd, List.length_cons, List.length_nil, bT_tt, bT_ff, bT_bvar, bT_not, bT_and, bT_or, bT_ite, bT_lt, bT_le, bT_eq, bT_beq, bT_seq, bT_hB, bT_his, bT_hby, bT_hism, bT_hks, iev_lit, iev_var, iev_add, iev_sub, iev_mul, iev_wrap, iev_ite, iev_hI, iev_hP, iev_hmlen, sev_ite, sev_slit, sev_sof, sev_svar, TV.ev, SV.ev, CV.ev, List.map_cons, List.map_nil, Res.hl, cpTV, Cp.sv, Ck.cv, cpSVs, Cp.len, Ck.len, newHs_zero, newHs_one, roots_ne, tkg1, tkr1]
    intro q0 g0 _ q1 g1 _
    simp only [g1.i, g1.h, g0.i, g0.h, Nat.reduceLT, w0, w1, ptr0]
    refine iNum h fun q2 g2 h2 v2 => ?_
    try simp only [g2.i, g2.h, g1.i, g1.h, g0.i, g0.h, Nat.reduceLT, w0, w1, ptr0]
    refine iNum h2 fun q3 g3 h3 v3 => ?_
    try simp only [g3.i, g3.h, g2.i, g2.h, g1.i, g1.h, g0.i, g0.h, Nat.reduceLT, w0, w1, ptr0]
    refine iNum h3 fun q4 g4 h4 v4 => ?_
    try simp only [g4.i, g4.h, g3.i, g3.h, g2.i, g2.h, g1.i, g1.h, g0.i, g0.h, Nat.reduceLT, w0, w1, ptr0]
    refine iNum h4 fun q5 g5 h5 v5 => ?_
    try simp only [g5.i, g5.h, g4.i, g4.h, g3.i, g3.h, g2.i, g2.h, g1.i, g1.h, g0.i, g0.h, Nat.reduceLT, w0, w1, ptr0]
    refine iNum h5 fun q6 g6 h6 v6 => ?_
    try simp only [g6.i, g6.h, g5.i, g5.h, g4.i, g4.h, g3.i, g3.h, g2.i, g2.h, g1.i, g1.h, g0.i, g0.h, Nat.reduceLT, w0, w1, ptr0]
    refine iNum h6 fun q7 g7 h7 v7 => ?_
    intro _
    have ev : (TV.sv (.agg [.int .u64 (.var 4), .int .u64 (.var 6), .int .u64 (.var 8), .int .u64 (.var 10), .int .u64 (.var 12), .int .u64 (.var 14)])).ev q7 = .agg (us (pNums 1048576 6 s).1).toArray := by
      show Value.agg (us [q7.i 4, q7.i 6, q7.i 8, q7.i 10, q7.i 12, q7.i 14]).toArray = _
      simp only [g7.i, g6.i, g5.i, g4.i, g3.i, g2.i, g1.i, g0.i, Nat.reduceLT, v2, v3, v4, v5, v6, v7]
      rfl
    refine ⟨[[0]], [], rfl, rfl, ⟨envI (pNums 1048576 6 s).1 false [], ?_, ckNorms_pure _ _ _ rfl, trivial⟩, _, H, s, q7.h 14, rfl, rfl, h, ?_, h7, ev⟩
    · rw [ev]; rfl
    · show [hls [q7.h 14]] = _
      rw [hls_one]
end Go.Proofs.YtomdimlnggpgbaaDoor
namespace Go.Sx
open Go
def roOnly : Mem → Bool
  | [] => true
  | .ro _ _ _ :: l => roOnly l
  | _ :: _ => false
theorem roOnly_at : ∀ {mem : Mem}, roOnly mem = true → ∀ r ∈ mem, ∃ k t a, r = .ro k t a
  | .ro k t a :: l, h, r, hr => by
    rcases List.mem_cons.1 hr with rfl | hr
    · exact ⟨k, t, a, rfl⟩
    · exact roOnly_at (mem := l) h r hr
theorem ent_ro {ρ : Env} {mem : Mem} {Hs Rs : List Hl} (h1 : roOnly mem = true) (h2 : mem.map (Res.hl ρ) = Rs) : Entry ρ mem Hs Rs := by
  refine ⟨fun r hr ho => ?_, fun r hr _ => ⟨r.hl ρ, by rw [← h2]; exact List.mem_map.2 ⟨r, hr, rfl⟩, Hl.le_refl _⟩, ?_, fun r hr => ?_⟩
  · obtain ⟨k, t, a, rfl⟩ := roOnly_at h1 r hr; cases ho
  · refine List.pairwise_iff_getElem.2 fun i j hi hj _ ho => ?_
    obtain ⟨k, t, a, e⟩ := roOnly_at h1 mem[i] (List.getElem_mem hi)
    rw [e] at ho; cases ho
  · obtain ⟨k, t, a, rfl⟩ := roOnly_at h1 r hr; trivial
def zEnv : Env := ⟨fun _ => 0, fun _ => false, fun _ => .empty, fun _ => .tuple #[], fun _ => Hl.none⟩
section
variable {s : Spec} {xs : List Value} {Rs : List Hl} {q : Env} {mem : Mem}
theorem ret_bool {e : E} (hr : s.res = [.one .bool]) (h : s.post xs [] Rs (.bool (bev q e)) [] Hl.none) : postOf s xs [] Rs q mem (.sv (.one (.bool e))) := fun _ =>
  ⟨[], [], rfl, rfl, ⟨{ zEnv with b := fun _ => bev q e }, by rw [hr]; rfl, by rw [hr]; exact ⟨trivial, trivial⟩⟩, h⟩
theorem ret_int {k : IntKind} {e : E} (hr : s.res = [.one (.int k)]) (h : s.post xs [] Rs (.int k (iev q e)) [] Hl.none) : postOf s xs [] Rs q mem (.sv (.one (.int k e))) := fun _ =>
  ⟨[], [], rfl, rfl, ⟨{ zEnv with i := fun _ => iev q e }, by rw [hr]; rfl, by rw [hr]; exact ⟨trivial, trivial⟩⟩, h⟩
theorem uni_one {p : Nat} {r : Res} (h : mem[p]? = some r) : uni q mem [p] = r.hl q := by
  unfold uni
  rw [List.map_cons, List.map_nil, hls_one]
  unfold resAt; rw [h]
theorem ret_sl {x y l c : E} {p : Nat} {r : Res} (hr : s.res = [.one .sl]) (hp : mem[p]? = some r) (ho : r.own = true) (hn : -1 ≤ iev q x ∧ 0 ≤ iev q y ∧ 0 ≤ iev q l ∧ 0 ≤ iev q c)
    (h : s.post xs [] Rs (.slice (slP (iev q x) (iev q y)) (iev q l).toNat (iev q c).toNat) [] (r.hl q)) : postOf s xs [] Rs q mem (.sv (.one (.sl x y l c))) := fun _ =>
  ⟨[], [p], rfl, by unfold okIdx; simp [hp, ho], ⟨{ zEnv with i := fun k => [iev q x, iev q y, iev q l, iev q c].getD k 0 }, by rw [hr]; rfl, by rw [hr]; exact ⟨hn, trivial⟩⟩, by rw [uni_one hp]; exact h⟩
end
end Go.Sx
namespace Go.Proofs.YtomdimlnggpgbaaDoor
open Go Go.Sx Go.Pk
noncomputable def pcN (c : Pc) : Int := ((bytesOfH c.h).length : Int) + c.b.length
noncomputable def sizeS (f : FuncId) : Sx.Spec where
  fn := f
  own := []
  rd := [10053, 1000125]
  res := [.one (.int .i64)]
  pre := fun xs Hs Rs => ∃ row R1 R2 c, xs = [.agg row.toArray] ∧ Rs = [R1, R2] ∧ IsPc R1 R2 row c
  post := fun xs Hs Rs v Hs' F => ∀ row R1 R2 c, xs = [.agg row.toArray] → Rs = [R1, R2] → IsPc R1 R2 row c → v = .int .i64 (pcN c)
def szArgs : List TV := (cpSVs 0 [.agg pk2]).map .sv
def szMem : Mem := [.ro 140 [.var 53] false, .ro 141 [.var 128] false]
def sizeNd : Nd := .ext (.alloc 142) (.and (.e (.le (.lit 0) (.var 130))) (.and (.pre (.call 0 143 [.sv (.agg (ckCVs 0 hk2))] [] [.ro 140 [.var 53] false])) (.ext (.call 0 143 [.sv (.agg (ckCVs 0 hk2))] [] [.ro 140 [.var 53] false]) (.and (.e (.le (.lit 0) (.var 145))) (.post [.ro 140 [.var 53] false, .ro 141 [.var 128] false, .dead, .hp 143 [] [.var 143] []] (.sv (.one (.int .i64 (.wrap .i64 (.add (.var 145) (.var 130)))))))))))
noncomputable def eSizeW : Walk Tryd.prog [bytesS 96] 66 where
  Λ := noLoops
  args := szArgs
  mem := szMem
  nv := 142
  nd := sizeNd
  ok := by kernel_rfl
noncomputable def rSizeW : Walk Tryd.prog [bytesS 90] 56 where
  Λ := noLoops
  args := szArgs
  mem := szMem
  nv := 142
  nd := sizeNd
  ok := by kernel_rfl
theorem hr5 (f : FuncId) : (bytesS f).res = [.one .sl] := rfl
theorem szg {g : FuncId} : [bytesS g][0]? = some (bytesS g) := rfl
theorem pcN_rng {R1 R2 : Hl} {row : List Value} {c : Pc} (hx : IsPc R1 R2 row c) : 0 ≤ pcN c ∧ pcN c ≤ 1000932 := by
  have h1 := bytesOf_len hx.hd
  have h2 := hx.len
  unfold pcN; omega
theorem size_gen {f g : FuncId} (hg : (bytesS g).OK Tryd.prog) (W : Walk Tryd.prog [bytesS g] f) (ha : W.args = szArgs) (hm : W.mem = szMem) (hp : W.path = []) (hn : W.nd = sizeNd) : (sizeS f).OK Tryd.prog := by
  refine Spec.of_fn (Γ := [bytesS g]) (fun t ht => by rw [List.mem_singleton] at ht; subst ht; exact hg) ?_
  rintro xs Hs Rs hl1 hl2 ⟨row, R1, R2, c, rfl, rfl, hx⟩
  have e0 : Hs = [] := List.length_eq_zero_iff.1 hl1
  subst e0
  obtain ⟨ρ, rfl, hnm, hh⟩ := row_env [(140, R1), (141, R2)] hx.ok
  refine ⟨W, ρ, fun _ _ => True, fun _ _ => 0, by rw [ha]; kernel_rfl, by rw [hm]; exact ent_ro rfl (by show [ρ.h 140, ρ.h 141] = _; rw [hh, hh]; rfl), by rw [hp]; exact (fun _ h => nomatch h), ?_⟩
  rw [hn]
  have hHd := hx.hd
  have hBd := hx.body
  rw [show ((ckCVs 0 pk2).map (CV.ev ρ)).take 125 = hrow ρ 0 by kernel_rfl] at hHd
  rw [show ((ckCVs 0 pk2).map (CV.ev ρ)).getD 125 noV = .slice (slP (ρ.i 128) (ρ.i 129)) (ρ.i 130).toNat (ρ.i 131).toNat by kernel_rfl] at hBd
  have n128 : 0 ≤ ρ.i 129 ∧ 0 ≤ ρ.i 130 ∧ 0 ≤ ρ.i 131 := by
    have := norms_at hk2 [.sl] 0 hnm
    rw [show 0 + ckLen hk2 = 128 by kernel_rfl] at this
    exact ⟨this.1.2.1, this.1.2.2.1, this.1.2.2.2⟩
  have hl : ρ.i 130 = c.b.length := by
    obtain ⟨x, y, k, e, _⟩ := hBd
    simp only [Value.slice.injEq] at e; omega
  unfold sizeNd
  simp only [Nd.holds, X.pre, X.rel, X.n, Src.ok, Src.len, Src.vals, true_and, and_true, if_true, Nat.mul_one, Nat.add_zero, Nat.reduceAdd, List.length_cons, List.length_nil, bT_tt, bT_ff, bT_bvar, bT_not, bT_and, bT_or, bT_ite, bT_lt, bT_le, bT_eq, bT_beq, bT_seq, bT_hB, bT_his, bT_hby, bT_hism, bT_hks, iev_lit, iev_var, iev_add, iev_sub, iev_mul, iev_wrap, iev_ite, iev_hI, iev_hP, iev_hmlen, sev_ite, sev_slit, sev_sof, sev_svar, TV.ev, SV.ev, CV.ev, List.map_cons, List.map_nil, Res.hl, cpTV, Cp.sv, Ck.cv, cpSVs, Cp.len, Ck.len, newHs_zero, newHs_one, roots_ne, szg, hr5]
  intro q0 g0 _
  rw [show (ckCVs 0 hk2).map (CV.ev q0) = hrow ρ 0 from hrow_ag (g0.mono (by omega)), g0.h 140 (by omega), g0.i 130 (by omega), hh 140]
  refine ⟨by omega, ⟨_, R1, c.h, rfl, rfl, hHd⟩, fun q1 g1 ⟨F, hp1, hF, hnm1⟩ => ?_⟩
  have hB := byt_res hHd hp1
  have n1 : -1 ≤ q1.i 143 ∧ 0 ≤ q1.i 144 ∧ 0 ≤ q1.i 145 ∧ 0 ≤ q1.i 146 := hnm1.1
  have h145 : q1.i 145 = (bytesOfH c.h).length := by
    obtain ⟨x, y, k, e, _⟩ := hB.rd
    simp only [Value.slice.injEq] at e; omega
  refine ⟨by omega, ret_int rfl fun row' R1' R2' c' e1 e2 hx' => ?_⟩
  simp only [List.cons.injEq, Value.agg.injEq, and_true] at e1 e2
  obtain ⟨rfl, rfl⟩ := e2
  obtain rfl := List.toArray_inj e1
  obtain rfl := hx.uniq hx'
  have := pcN_rng hx
  simp only [iev_wrap, iev_add, iev_var]
  rw [g1.i 130 (by omega), g0.i 130 (by omega), hl, h145]
  unfold pcN at this ⊢
  rw [wrap_i64 (by omega) (by omega)]
theorem eSizeS_ok : (sizeS 66).OK Tryd.prog := size_gen eBytS_ok eSizeW rfl rfl rfl rfl
theorem rSizeS_ok : (sizeS 56).OK Tryd.prog := size_gen rBytS_ok rSizeW rfl rfl rfl rfl
def rk2 : List Ck := [.int .u64, i64, i64] ++ List.replicate 6 (.int .u64) ++ [.sl]
def rkd : List Kd := rk2.map kdOf
def RowsP (R RA : Hl) (v : Value) (ps : List Pc) : Prop := ∃ rows, RdRows R v pkd rows ∧ rows.length = ps.length ∧ ∀ (j : Nat) row p, rows[j]? = some row → ps[j]? = some p → IsPc RA RA row p
theorem RowsP.uniq {R RA : Hl} {v : Value} {a b : List Pc} (h : RowsP R RA v a) (h' : RowsP R RA v b) : a = b := by
  obtain ⟨rows, h1, h2, h3⟩ := h
  obtain ⟨rows', h1', h2', h3'⟩ := h'
  obtain rfl := h1.uniq h1'
  apply List.ext_getElem (h2.symm.trans h2')
  intro j hj hj'
  exact (h3 j _ _ (List.getElem?_eq_getElem (by omega)) (List.getElem?_eq_getElem hj)).uniq (h3' j _ _ (List.getElem?_eq_getElem (by omega)) (List.getElem?_eq_getElem hj'))
structure Rp where
  c : List Value
  p : List Pc
structure IsRp (R RA : Hl) (row : List Value) (r : Rp) : Prop where
  ok : rowOK row rkd
  rng : ∀ v ∈ row, rngV v
  core : r.c = row.set 9 noV
  ps : RowsP R RA (row.getD 9 noV) r.p
theorem IsRp.uniq {R RA : Hl} {row : List Value} {r r' : Rp} (x : IsRp R RA row r) (y : IsRp R RA row r') : r = r' := by
  obtain ⟨c, p⟩ := r
  obtain ⟨c', p'⟩ := r'
  have e1 : c = c' := x.core.trans y.core.symm
  have e2 : p = p' := x.ps.uniq y.ps
  rw [e1, e2]
def hdsSmall (c : List Value) : Prop := cI c 3 ≤ 1048576 ∧ cI c 4 ≤ 1048576 ∧ cI c 5 ≤ 1048576 ∧ cI c 6 ≤ 1048576 ∧ cI c 7 ≤ 1048576 ∧ cI c 8 ≤ 1048576
def Pc.Good (c : Pc) : Prop := c.h.Form ∧ (c.b.length = 0 ∨ (c.b.length : Int) = cI c.h.c 92)
noncomputable def psN (ps : List Pc) : Int := (ps.map pcN).sum
def Rp.Form (r : Rp) : Prop := (1 ≤ cI r.c 1 ∧ cI r.c 1 ≤ 3) ∧ (0 ≤ cI r.c 2 ∧ cI r.c 2 ≤ 14) ∧ hdsSmall r.c ∧ r.p.length ≤ 8 ∧ (∀ c ∈ r.p, c.Good) ∧ psN r.p ≤ 14500
def rrow (q : Env) : List Value := (ckCVs 0 rk2).map (CV.ev q)
theorem rrow_n (q : Env) : cI (rrow q) 0 = q.i 0 ∧ cI (rrow q) 1 = q.i 1 ∧ cI (rrow q) 2 = q.i 2 ∧ cI (rrow q) 3 = q.i 3 ∧ cI (rrow q) 4 = q.i 4 ∧ cI (rrow q) 5 = q.i 5 ∧ cI (rrow q) 6 = q.i 6 ∧ cI (rrow q) 7 = q.i 7 ∧ cI (rrow q) 8 = q.i 8 := ⟨rfl, rfl, rfl, rfl, rfl, rfl, rfl, rfl, rfl⟩
theorem rrow_p (q : Env) : (rrow q).getD 9 noV = .slice (slP (q.i 9) (q.i 10)) (q.i 11).toNat (q.i 12).toNat := rfl
theorem IsRp.I {R RA : Hl} {row : List Value} {r : Rp} (x : IsRp R RA row r) {k : Nat} (hk : k ≠ 9) : cI r.c k = cI row k := by
  rw [x.core]; unfold cI; rw [List.getElem?_set_ne (by omega)]
theorem IsRp.n {R RA : Hl} {q : Env} {r : Rp} (x : IsRp R RA (rrow q) r) : cI r.c 0 = q.i 0 ∧ cI r.c 1 = q.i 1 ∧ cI r.c 2 = q.i 2 ∧ cI r.c 3 = q.i 3 ∧ cI r.c 4 = q.i 4 ∧ cI r.c 5 = q.i 5 ∧ cI r.c 6 = q.i 6 ∧ cI r.c 7 = q.i 7 ∧ cI r.c 8 = q.i 8 := by
  rw [x.I (by decide), x.I (by decide), x.I (by decide), x.I (by decide), x.I (by decide), x.I (by decide), x.I (by decide), x.I (by decide), x.I (by decide)]
  exact rrow_n q
end Go.Proofs.YtomdimlnggpgbaaDoor
namespace Go.Proofs.YtomdimlnggpgbaaDoor
open Go Go.Sx Go.Pk
def pcR (n : Nat) : List CV := romCells 20 (.var 9) (.add (.var 10) (.mul (.var n) (.lit 126))) 0 pkd
def pcRh (n : Nat) : List CV := romCells 20 (.var 9) (.add (.var 10) (.mul (.var n) (.lit 126))) 0 hkd
theorem pkd_len : pkd.length = 126 := by kernel_rfl
theorem pkd_take : pkd.take 125 = hkd := by kernel_rfl
structure PcAt (R RA : Hl) (x y : Int) (k : Nat) (row : List Value) (c : Pc) : Prop where
  x0 : 0 ≤ x
  pc : IsPc RA RA row c
  cell : ∀ j u, row[j]? = some u → R.cell x.toNat (y.toNat + k * 126 + j) = some u
theorem RowsP.at {R RA : Hl} {x y : Int} {l c : Nat} {ps : List Pc} (h : RowsP R RA (.slice (slP x y) l c) ps) (hy : 0 ≤ y) : l = ps.length ∧ ∀ (k : Nat) p, ps[k]? = some p → ∃ row, PcAt R RA x y k row p := by
  obtain ⟨rows, ⟨x1, y1, c1, he, hy1, hr⟩, hl, hp⟩ := h
  simp only [Value.slice.injEq] at he
  refine ⟨he.2.1.trans hl, fun k p hk => ?_⟩
  have hkl := (List.getElem?_eq_some_iff.1 hk).1
  have hrow : rows[k]? = some rows[k] := List.getElem?_eq_getElem (by omega)
  rcases hr with rfl | ⟨hx1, hr⟩
  · simp at hl; omega
  obtain ⟨e1, e2⟩ := slP_eq hx1 hy1 hy he.1
  subst e1 e2
  obtain ⟨_, h2⟩ := hr k _ hrow
  rw [pkd_len] at h2
  exact ⟨rows[k], hx1, hp k _ _ hrow hk, h2⟩
theorem PcAt.rows {R RA : Hl} {x y : Int} {k : Nat} {row : List Value} {c : Pc} (h : PcAt R RA x y k row c) (hy : 0 ≤ y) {q : Env} {n : Nat} (h20 : q.h 20 = R) (h9 : q.i 9 = x) (h10 : q.i 10 = y) (h50 : q.i n = k) :
    rowIs (q.h 20) (q.i 9).toNat (q.i 10 + q.i n * 126).toNat pkd = true ∧ (pcR n).map (CV.ev q) = row ∧ (pcRh n).map (CV.ev q) = row.take 125 := by
  have e : (q.i 10 + q.i n * 126).toNat = y.toNat + k * 126 := by rw [h10, h50]; omega
  have hl := rowOK_len h.pc.ok
  rw [pkd_len] at hl
  refine ⟨?_, romCells_row row pkd 0 h.pc.ok fun i u hu => ?_, ?_⟩
  · rw [h20, h9, e]; exact rowIs_of _ h.pc.ok h.cell
  · show (q.h 20).cell (q.i 9).toNat ((q.i 10 + q.i n * 126).toNat + (0 + i)) = some u
    rw [h20, h9, e, Nat.zero_add]; exact h.cell i u hu
  · have ho := rowOK_take (n := 125) h.pc.ok
    rw [pkd_take] at ho
    refine romCells_row (row.take 125) hkd 0 ho fun i u hu => ?_
    show (q.h 20).cell (q.i 9).toNat ((q.i 10 + q.i n * 126).toNat + (0 + i)) = some u
    rw [h20, h9, e, Nat.zero_add]
    rw [List.getElem?_take] at hu
    split at hu
    · exact h.cell i u hu
    · cases hu
theorem PcAt.hdr {R RA : Hl} {x y : Int} {k : Nat} {row : List Value} {c : Pc} (h : PcAt R RA x y k row c) (hy : 0 ≤ y) : rowIs R x.toNat (y + (k : Int) * 126).toNat hkd = true ∧ ∀ {q : Env} {g a b n : Nat}, q.h g = R → q.i a = x → q.i b = y → q.i n = k → (romCells g (.var a) (.add (.var b) (.mul (.var n) (.lit 126))) 0 hkd).map (CV.ev q) = row.take 125 := by
  have e : (y + (k : Int) * 126).toNat = y.toNat + k * 126 := by omega
  have ho := rowOK_take (n := 125) h.pc.ok
  rw [pkd_take] at ho
  have hc : ∀ i u, (row.take 125)[i]? = some u → R.cell x.toNat (y.toNat + k * 126 + i) = some u := fun i u hu => by
    rw [List.getElem?_take] at hu
    split at hu
    · exact h.cell i u hu
    · cases hu
  refine ⟨by rw [e]; exact rowIs_of _ ho hc, fun {q g a b n} hg ha hb hn => romCells_row (row.take 125) hkd 0 ho fun i u hu => ?_⟩
  show (q.h g).cell (q.i a).toNat ((q.i b + q.i n * 126).toNat + (0 + i)) = some u
  rw [hg, ha, hb, hn, e, Nat.zero_add]; exact hc i u hu
theorem PcAt.body {R RA : Hl} {x y : Int} {k : Nat} {row : List Value} {c : Pc} (h : PcAt R RA x y k row c) (hy : 0 ≤ y) : ∃ u, R.cell x.toNat (y + (k : Int) * 126 + 125).toNat = some u ∧ RdW RA u c.b := by
  have e : (y + (k : Int) * 126 + 125).toNat = y.toNat + k * 126 + 125 := by omega
  have hl := rowOK_len h.pc.ok
  rw [pkd_len] at hl
  have g1 : row[125]? = some row[125] := List.getElem?_eq_getElem (by omega)
  have hb := h.pc.body
  rw [List.getD_eq_getElem?_getD, g1, Option.getD_some] at hb
  exact ⟨_, by rw [e]; exact h.cell 125 _ g1, hb⟩
theorem rdW_len {R : Hl} {u : Value} {b : List Int} (h : RdW R u b) : valP (some u) 2 = b.length := by
  obtain ⟨x, y, c, rfl, _⟩ := h; simp [valP]
theorem PcAt.cells {R RA : Hl} {x y : Int} {k : Nat} {row : List Value} {c : Pc} (h : PcAt R RA x y k row c) (hy : 0 ≤ y) : valP (R.cell x.toNat ((y + (k : Int) * 126).toNat + 125)) 2 = c.b.length ∧ valI (R.cell x.toNat ((y + (k : Int) * 126).toNat + 92)) = cI c.h.c 92 := by
  have e : (y + (k : Int) * 126).toNat = y.toNat + k * 126 := by omega
  have hl := rowOK_len h.pc.ok
  rw [pkd_len] at hl
  have g1 : row[125]? = some row[125] := List.getElem?_eq_getElem (by omega)
  have g2 : row[92]? = some row[92] := List.getElem?_eq_getElem (by omega)
  rw [e, h.cell 125 _ g1, h.cell 92 _ g2]
  refine ⟨?_, ?_⟩
  · have hb := h.pc.body
    rw [List.getD_eq_getElem?_getD, g1, Option.getD_some] at hb
    exact rdW_len hb
  · have := h.pc.hd.I (k := 92) (by decide)
    rw [this]
    unfold cI
    rw [List.getElem?_take, if_pos (by decide), g2]
open Classical in
noncomputable def formR (f : FuncId) : Sx.Spec where
  fn := f
  own := []
  rd := [1000009, 4000009]
  res := [.one .bool]
  pre := fun xs Hs Rs => ∃ row R RA r, xs = [.agg row.toArray] ∧ Rs = [R, RA] ∧ IsRp R RA row r
  post := fun xs Hs Rs v Hs' F => ∀ row R RA r, xs = [.agg row.toArray] → Rs = [R, RA] → IsRp R RA row r → v = .bool (decide r.Form)
noncomputable def fpΓ (g h f : FuncId) : List Sx.Spec := [bytesS g, formS h, sizeS f]
theorem fpΓ_ok {g h f : FuncId} (h1 : (bytesS g).OK Tryd.prog) (h2 : (formS h).OK Tryd.prog) (h3 : (sizeS f).OK Tryd.prog) : ∀ t ∈ fpΓ g h f, t.OK Tryd.prog := fun t ht => by
  simp only [fpΓ, List.mem_cons, List.mem_nil_iff, or_false] at ht
  rcases ht with rfl | rfl | rfl
  · exact h1
  · exact h2
  · exact h3
def rpArgs : List TV := (cpSVs 0 [.agg rk2]).map .sv
def rpMem : Mem := [.ro 20 [.var 9] false, .ro 21 [] true]
def formpNd : Nd := .ext (.alloc 22) (.and (.imp (.not (.lt (.var 1) (.lit 1))) (.and (.imp (.not (.lt (.lit 3) (.var 1))) (.and (.imp (.not (.lt (.var 2) (.lit 0))) (.and (.imp (.not (.lt (.lit 14) (.var 2))) (.ext (.alloc 23) (.and (.imp (.lt (.lit 1048576) (.var 3)) (.post [.ro 20 [.var 9] false, .ro 21 [] true, .dead, .dead] (.sv (.one (.bool .ff))))) (.imp (.not (.lt (.lit 1048576) (.var 3))) (.and (.imp (.lt (.lit 1048576) (.var 4)) (.post [.ro 20 [.var 9] false, .ro 21 [] true, .dead, .dead] (.sv (.one (.bool .ff))))) (.imp (.not (.lt (.lit 1048576) (.var 4))) (.and (.imp (.lt (.lit 1048576) (.var 5)) (.post [.ro 20 [.var 9] false, .ro 21 [] true, .dead, .dead] (.sv (.one (.bool .ff))))) (.imp (.not (.lt (.lit 1048576) (.var 5))) (.and (.imp (.lt (.lit 1048576) (.var 6)) (.post [.ro 20 [.var 9] false, .ro 21 [] true, .dead, .dead] (.sv (.one (.bool .ff))))) (.imp (.not (.lt (.lit 1048576) (.var 6))) (.and (.imp (.lt (.lit 1048576) (.var 7)) (.post [.ro 20 [.var 9] false, .ro 21 [] true, .dead, .dead] (.sv (.one (.bool .ff))))) (.imp (.not (.lt (.lit 1048576) (.var 7))) (.and (.imp (.lt (.lit 1048576) (.var 8)) (.post [.ro 20 [.var 9] false, .ro 21 [] true, .dead, .dead] (.sv (.one (.bool .ff))))) (.imp (.not (.lt (.lit 1048576) (.var 8))) (.and (.e (.le (.lit 0) (.var 11))) (.and (.imp (.lt (.lit 8) (.var 11)) (.post [.ro 20 [.var 9] false, .ro 21 [] true, .dead, .dead] (.sv (.one (.bool .ff))))) (.imp (.not (.lt (.lit 8) (.var 11))) (.and (.inv 0 [⟨51, 0, .int .i64 (.lit 0)⟩, ⟨50, 0, .int .i64 (.lit 0)⟩] []) (.havoc 0 0 24 (.and (.imp (.lt (.var 50) (.var 11)) (.and (.e (.le (.lit 0) (.var 9))) (.and (.e (.le (.lit 0) (.var 10))) (.and (.e (.le (.lit 0) (.var 50))) (.and (.e (.hks 20 (.var 9) (.add (.var 10) (.mul (.var 50) (.lit 126))) pkd)) (.ext (.alloc 60) (.and (.pre (.call 1 61 [.sv (.agg (pcRh 50))] [] [.ro 21 [] true])) (.ext (.call 1 61 [.sv (.agg (pcRh 50))] [] [.ro 21 [] true]) (.and (.imp (.bvar 61) (.and (.e (.le (.lit 0) (.hP 20 (.var 9) (.add (.var 10) (.mul (.var 50) (.lit 126))) 125 2))) (.and (.imp (.not (.eq (.hP 20 (.var 9) (.add (.var 10) (.mul (.var 50) (.lit 126))) 125 2) (.lit 0))) (.and (.imp (.not (.eq (.hP 20 (.var 9) (.add (.var 10) (.mul (.var 50) (.lit 126))) 125 2) (.hI 20 (.var 9) (.add (.var 10) (.mul (.var 50) (.lit 126))) 92))) (.post [.ro 20 [.var 9] false, .ro 21 [] true, .dead, .dead, .dead] (.sv (.one (.bool .ff))))) (.imp (.eq (.hP 20 (.var 9) (.add (.var 10) (.mul (.var 50) (.lit 126))) 125 2) (.hI 20 (.var 9) (.add (.var 10) (.mul (.var 50) (.lit 126))) 92)) (.and (.pre (.call 2 62 [.sv (.agg (pcR 50))] [] [.ro 21 [] true, .ro 21 [] true])) (.ext (.call 2 62 [.sv (.agg (pcR 50))] [] [.ro 21 [] true, .ro 21 [] true]) (.back 0 0 [⟨51, 0, .int .i64 (.wrap .i64 (.add (.var 51) (.var 62)))⟩, ⟨50, 0, .int .i64 (.wrap .i64 (.add (.var 50) (.lit 1)))⟩] [])))))) (.imp (.eq (.hP 20 (.var 9) (.add (.var 10) (.mul (.var 50) (.lit 126))) 125 2) (.lit 0)) (.and (.pre (.call 2 62 [.sv (.agg (pcR 50))] [] [.ro 21 [] true, .ro 21 [] true])) (.ext (.call 2 62 [.sv (.agg (pcR 50))] [] [.ro 21 [] true, .ro 21 [] true]) (.back 0 0 [⟨51, 0, .int .i64 (.wrap .i64 (.add (.var 51) (.var 62)))⟩, ⟨50, 0, .int .i64 (.wrap .i64 (.add (.var 50) (.lit 1)))⟩] []))))))) (.imp (.not (.bvar 61)) (.post [.ro 20 [.var 9] false, .ro 21 [] true, .dead, .dead, .dead] (.sv (.one (.bool .ff)))))))))))))) (.imp (.not (.lt (.var 50) (.var 11))) (.post [.ro 20 [.var 9] false, .ro 21 [] true, .dead, .dead] (.sv (.one (.bool (.le (.var 51) (.lit 14500))))))))))))))))))))))))))) (.imp (.lt (.lit 14) (.var 2)) (.post [.ro 20 [.var 9] false, .ro 21 [] true, .dead] (.sv (.one (.bool .ff))))))) (.imp (.lt (.var 2) (.lit 0)) (.post [.ro 20 [.var 9] false, .ro 21 [] true, .dead] (.sv (.one (.bool .ff))))))) (.imp (.lt (.lit 3) (.var 1)) (.post [.ro 20 [.var 9] false, .ro 21 [] true, .dead] (.sv (.one (.bool .ff))))))) (.imp (.lt (.var 1) (.lit 1)) (.post [.ro 20 [.var 9] false, .ro 21 [] true, .dead] (.sv (.one (.bool .ff))))))
def lpF (f : FuncId) (p : List Nat) : Bool := lp p && p.head? == some f
noncomputable def eFormpW : Walk Tryd.prog (fpΓ 96 65 66) 28 where
  Λ := fun p => if lpF 28 p then some ⟨0, [(39, TI .i64 (.var 50)), (3, TI .i64 (.var 51))], [], 60⟩ else none
  args := rpArgs
  mem := rpMem
  nv := 22
  nd := formpNd
  ok := by kernel_rfl
noncomputable def rFormpW : Walk Tryd.prog (fpΓ 90 55 56) 24 where
  Λ := fun p => if lpF 24 p then some ⟨0, [(4, TI .i64 (.var 50)), (3, TI .i64 (.var 51))], [], 60⟩ else none
  args := rpArgs
  mem := rpMem
  nv := 22
  nd := formpNd
  ok := by kernel_rfl
theorem fpg1 {g h f : FuncId} : (fpΓ g h f)[1]? = some (formS h) := rfl
theorem fpg2 {g h f : FuncId} : (fpΓ g h f)[2]? = some (sizeS f) := rfl
theorem fpr1 (h : FuncId) : (formS h).res = [.one .bool] := rfl
theorem fpr2 (h : FuncId) : (sizeS h).res = [.one (.int .i64)] := rfl
theorem psN_le {ps : List Pc} (h : ∀ c ∈ ps, ∃ R1 R2 row, IsPc R1 R2 row c) : 0 ≤ psN ps ∧ psN ps ≤ 1000932 * ps.length := by
  induction ps with
  | nil => exact ⟨Int.le_refl _, Int.le_refl _⟩
  | cons c ps ih =>
    obtain ⟨R1, R2, row, hx⟩ := h c (List.mem_cons_self ..)
    have h1 := pcN_rng hx
    have h2 := ih fun d hd => h d (List.mem_cons_of_mem _ hd)
    have e : psN (c :: ps) = pcN c + psN ps := rfl
    rw [e, List.length_cons]; omega
theorem psN_snoc (ps : List Pc) (c : Pc) : psN (ps ++ [c]) = psN ps + pcN c := by unfold psN; simp
theorem rp_norm {q : Env} (h : ckNormsW 0 rk2 q) : 0 ≤ q.i 10 ∧ 0 ≤ q.i 11 ∧ 0 ≤ q.i 12 := by
  have := norms_at ([.int .u64, i64, i64] ++ List.replicate 6 (Ck.int .u64)) [.sl] 0 h
  exact ⟨this.1.2.1, this.1.2.2.1, this.1.2.2.2⟩
set_option maxRecDepth 10000 in
theorem form_gen {g h f fn : FuncId} (h1 : (bytesS g).OK Tryd.prog) (h2 : (formS h).OK Tryd.prog) (h3 : (sizeS f).OK Tryd.prog) (W : Walk Tryd.prog (fpΓ g h f) fn) (ha : W.args = rpArgs) (hm : W.mem = rpMem) (hp : W.path = []) (hn : W.nd = formpNd) : (formR fn).OK Tryd.prog := by
  refine Spec.of_fn (Γ := fpΓ g h f) (fpΓ_ok h1 h2 h3) ?_
  rintro xs Hs Rs hl1 hl2 ⟨row, R, RA, r, rfl, rfl, hx⟩
  have e0 : Hs = [] := List.length_eq_zero_iff.1 hl1
  subst e0
  obtain ⟨ρ, rfl, hnm, hh⟩ := row_env [(20, R), (21, RA)] hx.ok
  have hx : IsRp R RA (rrow ρ) r := hx
  refine ⟨W, ρ, fun _ q => ∃ k : Nat, q.i 50 = k ∧ k ≤ r.p.length ∧ (∀ c ∈ r.p.take k, c.Good) ∧ q.i 51 = psN (r.p.take k), fun _ q => (r.p.length - q.i 50).toNat, by rw [ha]; rfl, by rw [hm]; exact ent_ro rfl (by show [ρ.h 20, ρ.h 21] = _; rw [hh, hh]; rfl), by rw [hp]; exact (fun _ h => nomatch h), ?_⟩
  rw [hn]
  have hw20 : ρ.h 20 = R := hh 20
  have hw21 : ρ.h 21 = RA := hh 21
  obtain ⟨n10, n11, n12⟩ := rp_norm hnm
  have hps := hx.ps
  rw [rrow_p] at hps
  obtain ⟨hlen, hat⟩ := hps.at n10
  have hlen : ρ.i 11 = r.p.length := by omega
  obtain ⟨c0, c1, c2, c3, c4, c5, c6, c7, c8⟩ := hx.n
  have hF : r.Form ↔ (1 ≤ ρ.i 1 ∧ ρ.i 1 ≤ 3) ∧ (0 ≤ ρ.i 2 ∧ ρ.i 2 ≤ 14) ∧ (ρ.i 3 ≤ 1048576 ∧ ρ.i 4 ≤ 1048576 ∧ ρ.i 5 ≤ 1048576 ∧ ρ.i 6 ≤ 1048576 ∧ ρ.i 7 ≤ 1048576 ∧ ρ.i 8 ≤ 1048576) ∧ r.p.length ≤ 8 ∧ (∀ c ∈ r.p, c.Good) ∧ psN r.p ≤ 14500 := by
    unfold Rp.Form hdsSmall
    rw [c1, c2, c3, c4, c5, c6, c7, c8]
  have out : ∀ {q : Env} {e : E} {mem : Mem}, (bev q e = true ↔ r.Form) → postOf (formR fn) [.agg (rrow ρ).toArray] [] [R, RA] q mem (.sv (.one (.bool e))) := by
    intro q e mem he
    refine ret_bool rfl fun row' R' RA' r' e1 e2 hx' => ?_
    simp only [List.cons.injEq, Value.agg.injEq, and_true] at e1 e2
    obtain ⟨rfl, rfl⟩ := e2
    obtain rfl := List.toArray_inj e1
    obtain rfl := hx.uniq hx'
    exact boolV he
  have ff : ∀ {q : Env} {mem : Mem}, ¬ r.Form → postOf (formR fn) [.agg (rrow ρ).toArray] [] [R, RA] q mem (.sv (.one (.bool .ff))) := fun hf => out ⟨fun e => (by rw [bev_ff] at e; cases e), fun e => absurd e hf⟩
  unfold formpNd
  simp only [Nd.holds, X.pre, X.rel, X.n, Src.ok, Src.len, Src.vals, true_and, and_true, if_true, Nat.mul_one, Nat.add_zero, Nat.reduceAdd, List.length_cons, List.length_nil, bT_tt, bT_ff, bT_bvar, bT_not, bT_and, bT_or, bT_ite, bT_lt, bT_le, bT_eq, bT_beq, bT_seq, bT_hB, bT_his, bT_hby, bT_hism, bT_hks, iev_lit, iev_var, iev_add, iev_sub, iev_mul, iev_wrap, iev_ite, iev_hI, iev_hP, iev_hmlen, sev_ite, sev_slit, sev_sof, sev_svar, TV.ev, SV.ev, CV.ev, List.map_cons, List.map_nil, Res.hl, cpTV, Cp.sv, Ck.cv, cpSVs, Cp.len, Ck.len, newHs_zero, newHs_one, roots_ne, fpg1, fpg2, fpr1, fpr2]
  intro q0 g0 _
  rw [g0.i 1 (by omega), g0.i 2 (by omega)]
  refine ⟨fun a1 => ⟨fun a2 => ⟨fun a3 => ⟨fun a4 q1 g1 _ => ?_, fun a => ff fun hf => by have := hF.1 hf; omega⟩, fun a => ff fun hf => by have := hF.1 hf; omega⟩, fun a => ff fun hf => by have := hF.1 hf; omega⟩, fun a => ff fun hf => by have := hF.1 hf; omega⟩
  have G1 : Agree 22 ρ q1 := g0.trans (g1.mono (by omega))
  rw [G1.i 3 (by omega), G1.i 4 (by omega), G1.i 5 (by omega), G1.i 6 (by omega), G1.i 7 (by omega), G1.i 8 (by omega), G1.i 11 (by omega), hlen]
  refine ⟨fun a => ff fun hf => by have := hF.1 hf; omega, fun b1 => ⟨fun a => ff fun hf => by have := hF.1 hf; omega, fun b2 => ⟨fun a => ff fun hf => by have := hF.1 hf; omega, fun b3 => ⟨fun a => ff fun hf => by have := hF.1 hf; omega, fun b4 => ⟨fun a => ff fun hf => by have := hF.1 hf; omega, fun b5 => ⟨fun a => ff fun hf => by have := hF.1 hf; omega, fun b6 => ⟨by omega, fun a => ff fun hf => by have := hF.1 hf; omega, fun b7 => ⟨⟨0, rfl, Nat.zero_le _, (fun c hc => by rw [List.take_zero] at hc; cases hc), rfl⟩, fun q2 g2 ⟨k, ek, hk, hgood, hsum⟩ => ?_⟩⟩⟩⟩⟩⟩⟩⟩
  have G2 : Agree 22 ρ q2 := G1.trans (g2.mono (by omega))
  rw [G2.i 9 (by omega), G2.i 10 (by omega), G2.i 11 (by omega), hlen, ek, G2.h 20 (by omega), hw20]
  refine ⟨fun hlt => ?_, fun hge => ?_⟩
  · have hkl : k < r.p.length := by omega
    have hpk : r.p[k]? = some r.p[k] := List.getElem?_eq_getElem hkl
    obtain ⟨row, hAt⟩ := hat k _ hpk
    have e50 : ∀ q : Env, Agree 60 q2 q → q.h 20 = R ∧ q.i 9 = ρ.i 9 ∧ q.i 10 = ρ.i 10 ∧ q.i 50 = k ∧ q.i 51 = psN (r.p.take k) ∧ q.h 21 = RA := fun q hg => by
      rw [hg.h 20 (by omega), hg.i 9 (by omega), hg.i 10 (by omega), hg.i 50 (by omega), hg.i 51 (by omega), hg.h 21 (by omega), G2.h 20 (by omega), G2.i 9 (by omega), G2.i 10 (by omega), G2.h 21 (by omega)]
      exact ⟨hw20, rfl, rfl, ek, hsum, hw21⟩
    obtain ⟨d1, d2, d3, d4, d5, d6⟩ := e50 q2 (Agree.refl _ _)
    obtain ⟨r1, _, _⟩ := hAt.rows n10 d1 d2 d3 d4
    rw [d1, d2, d3, d4] at r1
    refine ⟨hAt.x0, n10, by omega, r1, fun q3 g3 _ => ?_⟩
    obtain ⟨d1, d2, d3, d4, d5, d6⟩ := e50 q3 g3
    obtain ⟨_, _, r3⟩ := hAt.rows n10 d1 d2 d3 d4
    rw [r3, d6]
    refine ⟨⟨_, RA, _, rfl, rfl, hAt.pc.hd⟩, fun q4 g4 ⟨F4, hp4, _⟩ => ?_⟩
    have hb := formd_res hAt.pc.hd hp4
    have G4 : Agree 60 q2 q4 := g3.trans (g4.mono (by omega))
    obtain ⟨d1, d2, d3, d4, d5, d6⟩ := e50 q4 G4
    obtain ⟨_, r2, _⟩ := hAt.rows n10 d1 d2 d3 d4
    obtain ⟨l1, l2⟩ := hAt.cells n10
    rw [hb, r2, d1, d2, d3, d4, d6, l1, l2]
    have hmem : r.p[k] ∈ r.p := List.getElem_mem hkl
    have hbk := hAt.pc.len
    have tk : r.p.take (k + 1) = r.p.take k ++ [r.p[k]] := by rw [List.take_add_one, hpk]; rfl
    have fin : r.p[k].Good → (sizeS f).pre [.agg row.toArray] [] [RA, RA] ∧ ∀ q5, Agree 62 q4 q5 → (∃ F, (sizeS f).post [.agg row.toArray] [] [RA, RA] (.int .i64 (q5.i 62)) [] F ∧ (cpRoots 0 [Cp.one (Ck.int .i64)] ≠ [] → q5.h 62 = F) ∧ cpNorms 62 [.one (.int .i64)] q5) →
        (∃ k' : Nat, (assign q5 [⟨51, 0, .int .i64 (.wrap .i64 (.add (.var 51) (.var 62)))⟩, ⟨50, 0, .int .i64 (.wrap .i64 (.add (.var 50) (.lit 1)))⟩] []).i 50 = k' ∧ k' ≤ r.p.length ∧ (∀ c ∈ r.p.take k', c.Good) ∧ (assign q5 [⟨51, 0, .int .i64 (.wrap .i64 (.add (.var 51) (.var 62)))⟩, ⟨50, 0, .int .i64 (.wrap .i64 (.add (.var 50) (.lit 1)))⟩] []).i 51 = psN (r.p.take k')) ∧
        ((r.p.length : Int) - (assign q5 [⟨51, 0, .int .i64 (.wrap .i64 (.add (.var 51) (.var 62)))⟩, ⟨50, 0, .int .i64 (.wrap .i64 (.add (.var 50) (.lit 1)))⟩] []).i 50).toNat < ((r.p.length : Int) - (k : Int)).toNat := fun hG => by
      refine ⟨⟨_, RA, RA, _, rfl, rfl, hAt.pc⟩, fun q5 g5 ⟨F5, hp5, _⟩ => ?_⟩
      have h62 := hp5 _ RA RA _ rfl rfl hAt.pc
      have h62 : q5.i 62 = pcN r.p[k] := by simpa using h62
      obtain ⟨_, _, _, f4, f5, _⟩ := e50 q5 (G4.trans (g5.mono (by omega)))
      have hr1 := pcN_rng hAt.pc
      have hr2 := psN_le (ps := r.p.take k) fun c hc => by
        obtain ⟨j, hj⟩ := List.mem_iff_getElem?.1 (List.mem_of_mem_take hc)
        obtain ⟨rw', hA'⟩ := hat j _ hj
        exact ⟨RA, RA, rw', hA'.pc⟩
      have htl : (r.p.take k).length ≤ 8 := by rw [List.length_take]; omega
      have e1 : (assign q5 [⟨51, 0, .int .i64 (.wrap .i64 (.add (.var 51) (.var 62)))⟩, ⟨50, 0, .int .i64 (.wrap .i64 (.add (.var 50) (.lit 1)))⟩] []).i 50 = (k : Int) + 1 := by
        show IntKind.i64.wrap (q5.i 50 + 1) = _
        rw [f4]; exact wrap_i64 (by omega) (by omega)
      have e2 : (assign q5 [⟨51, 0, .int .i64 (.wrap .i64 (.add (.var 51) (.var 62)))⟩, ⟨50, 0, .int .i64 (.wrap .i64 (.add (.var 50) (.lit 1)))⟩] []).i 51 = psN (r.p.take k) + pcN r.p[k] := by
        show IntKind.i64.wrap (q5.i 51 + q5.i 62) = _
        rw [f5, h62]; exact wrap_i64 (by omega) (by omega)
      refine ⟨⟨k + 1, by rw [e1]; rfl, by omega, fun c hc => ?_, by rw [e2, tk, psN_snoc]⟩, by rw [e1]; omega⟩
      rw [tk] at hc
      rcases List.mem_append.1 hc with hc | hc
      · exact hgood c hc
      · rw [List.mem_singleton] at hc; subst hc; exact hG
    refine ⟨fun hfm => ⟨by omega, fun hne => ⟨fun hne2 => ff fun hf => ?_, fun heq => fin ⟨hfm, Or.inr heq⟩⟩, fun h0 => fin ⟨hfm, Or.inl (by omega)⟩⟩, fun hfm => ff fun hf => hfm ((hF.1 hf).2.2.2.2.1 _ hmem).1⟩
    rcases ((hF.1 hf).2.2.2.2.1 _ hmem).2 with h | h
    · omega
    · exact hne2 h
  · have hke : k = r.p.length := by omega
    subst hke
    rw [List.take_length] at hgood hsum
    refine out ?_
    simp only [bT_le, iev_var, iev_lit, hsum]
    exact ⟨fun h => hF.2 ⟨by omega, by omega, by omega, by omega, hgood, h⟩, fun h => (hF.1 h).2.2.2.2.2⟩
theorem eFormR_ok : (formR 28).OK Tryd.prog := form_gen eBytS_ok eFormS_ok eSizeS_ok eFormpW rfl rfl rfl rfl
theorem rFormR_ok : (formR 24).OK Tryd.prog := form_gen rBytS_ok rFormS_ok rSizeS_ok rFormpW rfl rfl rfl rfl
end Go.Proofs.YtomdimlnggpgbaaDoor
namespace Go.Proofs.YtomdimlnggpgbaaDoor
open Go Go.Sx Go.Pk
def batch (n : Int) : Int := if n ≤ 1 then 1 else if n ≤ 2 then 2 else if n ≤ 4 then 4 else if n ≤ 8 then 8 else if n ≤ 16 then 16 else if n ≤ 32 then 32 else if n ≤ 64 then 64 else if n ≤ 128 then 128 else if n ≤ 256 then 256 else if n ≤ 512 then 512 else if n ≤ 1024 then 1024 else if n ≤ 2048 then 2048 else if n ≤ 4096 then 4096 else if n ≤ 8192 then 8192 else if n ≤ 16384 then 16384 else if n ≤ 32768 then 32768 else 65536
def isTwo (t : Int) : Prop := t = 1 ∨ t = 2 ∨ t = 4 ∨ t = 8 ∨ t = 16 ∨ t = 32 ∨ t = 64 ∨ t = 128 ∨ t = 256 ∨ t = 512 ∨ t = 1024 ∨ t = 2048 ∨ t = 4096 ∨ t = 8192 ∨ t = 16384 ∨ t = 32768 ∨ t = 65536
theorem batch_of {n t : Int} (h : isTwo t) (h1 : n ≤ t) (h2 : t = 1 ∨ t < 2 * n) : batch n = t := by
  unfold isTwo at h
  unfold batch
  repeat' split
  all_goals omega
theorem batch_ge {n : Int} (h : n ≤ 65536) : n ≤ batch n := by
  unfold batch
  repeat' split
  all_goals omega
theorem batch_le (n : Int) : 1 ≤ batch n ∧ batch n ≤ 65536 := by
  unfold batch
  repeat' split
  all_goals omega
def batchG (xs : List Value) : Value := .int .i64 (batch (valI xs[0]?))
def batchS : Sx.Spec := pureS 47 [.one i64] [.one i64] (fun _ => True) batchG
def batchNd : Nd := .and (.imp (.lt (.lit 1) (.var 0)) (.and (.imp (.lt (.lit 2) (.var 0)) (.and (.imp (.lt (.lit 4) (.var 0)) (.and (.imp (.lt (.lit 8) (.var 0)) (.and (.imp (.lt (.lit 16) (.var 0)) (.and (.imp (.lt (.lit 32) (.var 0)) (.and (.imp (.lt (.lit 64) (.var 0)) (.and (.imp (.lt (.lit 128) (.var 0)) (.and (.imp (.lt (.lit 256) (.var 0)) (.and (.imp (.lt (.lit 512) (.var 0)) (.and (.imp (.lt (.lit 1024) (.var 0)) (.and (.imp (.lt (.lit 2048) (.var 0)) (.and (.imp (.lt (.lit 4096) (.var 0)) (.and (.imp (.lt (.lit 8192) (.var 0)) (.and (.imp (.lt (.lit 16384) (.var 0)) (.and (.imp (.lt (.lit 32768) (.var 0)) (.and (.imp (.lt (.lit 65536) (.var 0)) (.post [] (.sv (.one (.int .i64 (.lit 65536)))))) (.imp (.not (.lt (.lit 65536) (.var 0))) (.post [] (.sv (.one (.int .i64 (.lit 65536)))))))) (.imp (.not (.lt (.lit 32768) (.var 0))) (.post [] (.sv (.one (.int .i64 (.lit 32768)))))))) (.imp (.not (.lt (.lit 16384) (.var 0))) (.post [] (.sv (.one (.int .i64 (.lit 16384)))))))) (.imp (.not (.lt (.lit 8192) (.var 0))) (.post [] (.sv (.one (.int .i64 (.lit 8192)))))))) (.imp (.not (.lt (.lit 4096) (.var 0))) (.post [] (.sv (.one (.int .i64 (.lit 4096)))))))) (.imp (.not (.lt (.lit 2048) (.var 0))) (.post [] (.sv (.one (.int .i64 (.lit 2048)))))))) (.imp (.not (.lt (.lit 1024) (.var 0))) (.post [] (.sv (.one (.int .i64 (.lit 1024)))))))) (.imp (.not (.lt (.lit 512) (.var 0))) (.post [] (.sv (.one (.int .i64 (.lit 512)))))))) (.imp (.not (.lt (.lit 256) (.var 0))) (.post [] (.sv (.one (.int .i64 (.lit 256)))))))) (.imp (.not (.lt (.lit 128) (.var 0))) (.post [] (.sv (.one (.int .i64 (.lit 128)))))))) (.imp (.not (.lt (.lit 64) (.var 0))) (.post [] (.sv (.one (.int .i64 (.lit 64)))))))) (.imp (.not (.lt (.lit 32) (.var 0))) (.post [] (.sv (.one (.int .i64 (.lit 32)))))))) (.imp (.not (.lt (.lit 16) (.var 0))) (.post [] (.sv (.one (.int .i64 (.lit 16)))))))) (.imp (.not (.lt (.lit 8) (.var 0))) (.post [] (.sv (.one (.int .i64 (.lit 8)))))))) (.imp (.not (.lt (.lit 4) (.var 0))) (.post [] (.sv (.one (.int .i64 (.lit 4)))))))) (.imp (.not (.lt (.lit 2) (.var 0))) (.post [] (.sv (.one (.int .i64 (.lit 2)))))))) (.imp (.not (.lt (.lit 1) (.var 0))) (.post [] (.sv (.one (.int .i64 (.lit 1))))))
def batchW : Walk Tryd.prog [] 47 where
  Λ := noLoops
  args := (cpSVs 0 [.one i64]).map .sv
  mem := []
  nv := 1
  nd := batchNd
  ok := by kernel_rfl
theorem batchS_ok : batchS.OK Tryd.prog := by
  refine pure_of (Γ := []) (fun t ht => by cases ht) batchW rfl rfl rfl (fun q _ _ => shape_int _) (fun q hq hN => ⟨fun _ _ => True, fun _ _ => 0, ?_⟩)
  have eG : batchG (inVs [.one i64] q) = .int .i64 (batch (q.i 0)) := rfl
  simp only [eG]
  show Nd.holds _ _ _ batchNd
  unfold batchNd
  simp only [Nd.holds, X.pre, X.rel, X.n, Src.ok, Src.len, Src.vals, true_and, and_true, if_true, Nat.mul_one, Nat.add_zero, Nat.reduceAdd, List.length_cons, List.length_nil, bT_tt, bT_ff, bT_bvar, bT_not, bT_and, bT_or, bT_ite, bT_lt, bT_le, bT_eq, bT_beq, bT_seq, bT_hB, bT_his, bT_hby, bT_hism, bT_hks, iev_lit, iev_var, iev_add, iev_sub, iev_mul, iev_wrap, iev_ite, iev_hI, iev_hP, iev_hmlen, sev_ite, sev_slit, sev_sof, sev_svar, TV.ev, SV.ev, CV.ev, List.map_cons, List.map_nil, Res.hl, cpTV, Cp.sv, Ck.cv, cpSVs, Cp.len, Ck.len, newHs_zero, newHs_one, roots_ne, Value.int.injEq]
  have tw : ∀ {t : Int}, isTwo t → q.i 0 ≤ t → (t = 1 ∨ t < 2 * q.i 0) → t = batch (q.i 0) := fun h h1 h2 => (batch_of h h1 h2).symm
  have top : 65536 < q.i 0 → (65536 : Int) = batch (q.i 0) := fun h => by
    unfold batch
    repeat' split
    all_goals omega
  unfold isTwo at tw
  repeat' first | (refine ⟨?_, ?_⟩) | (intro _)
  all_goals first | (exact tw (by omega) (by omega) (by omega)) | (exact top (by omega))
theorem batch_res {z : Int} {v : Int} {Hs K : List Hl} {F : Hl} (hp : batchS.post [.int .i64 z] Hs [] (.int .i64 v) K F) : v = batch z := by
  have h : Value.int .i64 v = .int .i64 (batch z) := hp
  simpa using h
theorem batch_pre (z : Int) : batchS.pre [.int .i64 z] [] [] := ⟨⟨{ zEnv with i := fun _ => z }, ⟨trivial, trivial⟩, rfl⟩, trivial⟩
def bRow (a : Nat) (l : List Int) : Hl := Hl.one a (.cells (bys l).toArray 5 (0, 0))
theorem bRow_made (a n : Nat) : Hl.one a (.cells (madeCells #[Value.int .u8 0] n) 5 (0, 0)) = bRow a (List.replicate n 0) := by
  unfold bRow bys
  congr 2
  rw [List.map_replicate]
  apply Array.ext
  · simp [madeCells]
  · intro i h1 h2
    simp [madeCells, List.getElem?_replicate, Nat.mod_one]
theorem bRow_put (a y : Nat) (l m : List Int) : (bRow a l).put a y (bys m) = bRow a (splice l y m) := by
  unfold bRow
  rw [Hl.one_put]
  simp [splice, bys]
theorem bRow_own {a : Int} (h : 0 ≤ a) (l : List Int) (hl : l.length ≤ maxLen) : OwB (bRow a.toNat l) 5 (.slice (slP a 0) l.length l.length) l := by
  refine ⟨by rw [bys_length, Nat.mul_one], Or.inr ⟨a.toNat, l.length, (bys l).toArray, by rw [slP_pos h]; rfl, Hl.one_self _ _, Nat.le_refl _, hl, by simp [bys_length], by rw [Nat.mul_one, List.take_of_length_le (by simp [bys_length])]⟩⟩
theorem segVals_bys {R : Hl} {x y : Nat} {bs : List Int} (h : ∀ j z, bs[j]? = some z → R.cell x (y + j) = some (.int .u8 z)) : segVals R x y bs.length = bys bs := by
  apply List.ext_getElem?
  intro j
  unfold segVals
  rw [List.getElem?_map, bys_get]
  by_cases hj : j < bs.length
  · rw [List.getElem?_range hj, List.getElem?_eq_getElem hj, Option.map_some, Option.map_some, h j _ (List.getElem?_eq_getElem hj)]; rfl
  · rw [List.getElem?_eq_none (by simpa using hj), List.getElem?_eq_none (by omega)]; rfl
theorem pad_row {bs : List Int} {n : Nat} (h : bs.length < n) : splice (splice (List.replicate n 0) 0 bs) bs.length [(1 : Int)] = bs ++ [1] ++ List.replicate (n - (bs.length + 1)) 0 := by
  obtain ⟨k, rfl⟩ : ∃ k, n = bs.length + (k + 1) := ⟨n - bs.length - 1, by omega⟩
  unfold splice
  simp [List.take_append, List.drop_append]
  rw [List.drop_eq_nil_of_le (by omega), List.nil_append]
  congr 1
  omega
noncomputable def psB (ps : List Pc) : List Int := (ps.map pcB).flatten
def rpA (r : Rp) : List Int := numB (cI r.c 0).toNat ++ numB (u64N (cI r.c 1)) ++ numB (u64N (cI r.c 2)) ++ vecB (segI r.c 3 6) ++ numB r.p.length
noncomputable def rpB (r : Rp) : List Int := rpA r ++ psB r.p
def rpPad (bs : List Int) : List Int := bs ++ [1] ++ List.replicate ((batch ((bs.length : Int) + 1)).toNat - (bs.length + 1)) 0
theorem good_len {c : Pc} (h : c.Good) : c.b.length ≤ 2064 := by
  have hp := h.1.2.2.2.1
  unfold isPad at hp
  rcases h.2 with h | h <;> omega
theorem psB_snoc (ps : List Pc) (c : Pc) : psB (ps ++ [c]) = psB ps ++ pcB c := by unfold psB; simp
theorem pcB_n {c : Pc} {R1 R2 : Hl} {row : List Value} (hx : IsPc R1 R2 row c) (h : c.b.length ≤ 4096) : ((pcB c).length : Int) ≤ pcN c + 20 := by
  unfold pcB textBytes pcN
  have a1 := bytesOf_len hx.hd
  have a2 := lenB (z := (bytesOfH c.h).length) (by omega)
  have a3 := lenB (z := c.b.length) (by omega)
  simp only [List.length_append]; omega
theorem psB_n {ps : List Pc} (h : ∀ c ∈ ps, c.b.length ≤ 4096 ∧ ∃ R1 R2 row, IsPc R1 R2 row c) : ((psB ps).length : Int) ≤ psN ps + 20 * ps.length := by
  induction ps with
  | nil => exact Int.le_refl _
  | cons c ps ih =>
    obtain ⟨hb, R1, R2, row, hx⟩ := h c (List.mem_cons_self ..)
    have h1 := pcB_n hx hb
    have h2 := ih fun d hd => h d (List.mem_cons_of_mem _ hd)
    have e : psN (c :: ps) = pcN c + psN ps := rfl
    have e2 : psB (c :: ps) = pcB c ++ psB ps := rfl
    rw [e, e2, List.length_cons, List.length_append]; omega
noncomputable def rpRes (r : Rp) : List Int × Int := open Classical in if r.Form then (rpPad (rpB r), 0) else ([], 1)
noncomputable def rpBytS : Sx.Spec where
  fn := 27
  own := []
  rd := [1000009, 4000009]
  res := [.one .sl, .one (.int .i64)]
  pre := fun xs Hs Rs => ∃ row R RA r, xs = [.agg row.toArray] ∧ Rs = [R, RA] ∧ IsRp R RA row r
  post := fun xs Hs Rs v Hs' F => ∀ row R RA r, xs = [.agg row.toArray] → Rs = [R, RA] → IsRp R RA row r → ∃ u, v = .tuple #[u, .int .i64 (rpRes r).2] ∧ OwB F 5 u (rpRes r).1
noncomputable def rbyΓ : List Sx.Spec := [formR 28, oNumS, putVecS, putPcS, oEndS, batchS]
theorem rbyΓ_ok : ∀ t ∈ rbyΓ, t.OK Tryd.prog := fun t ht => by
  simp only [rbyΓ, List.mem_cons, List.mem_nil_iff, or_false] at ht
  rcases ht with rfl | rfl | rfl | rfl | rfl | rfl
  · exact eFormR_ok
  · exact oNumS_ok
  · exact putVecS_ok
  · exact putPcS_ok
  · exact oEndS_ok
  · exact batchS_ok
def rpBytNd : Nd := .ext (.alloc 22) (.and (.pre (.call 0 23 [.sv (.agg (ckCVs 0 rk2))] [] [.ro 20 [.var 9] false, .ro 21 [] true])) (.ext (.call 0 23 [.sv (.agg (ckCVs 0 rk2))] [] [.ro 20 [.var 9] false, .ro 21 [] true]) (.and (.imp (.not (.bvar 23)) (.post [.ro 20 [.var 9] false, .ro 21 [] true, .dead] (.tup [.one (.sl (.lit (-1)) (.lit 0) (.lit 0) (.lit 0)), .one (.int .i64 (.lit 1))]))) (.imp (.bvar 23) (.ext (.alloc 24) (.and (.pre (.call 1 25 [.sv (.one (.hptr (.var 24) (.lit 0))), .sv (.one (.int .u64 (.var 0)))] [.blk 24 [.sl (.lit (-1)) (.lit 0) (.lit 0) (.lit 0), .bool .ff] 124] [])) (.ext (.call 1 25 [.sv (.one (.hptr (.var 24) (.lit 0))), .sv (.one (.int .u64 (.var 0)))] [.blk 24 [.sl (.lit (-1)) (.lit 0) (.lit 0) (.lit 0), .bool .ff] 124] []) (.and (.pre (.call 1 27 [.sv (.one (.hptr (.var 24) (.lit 0))), .sv (.one (.int .u64 (.wrap .u64 (.var 1))))] [.hp 25 [] [.var 24] []] [])) (.ext (.call 1 27 [.sv (.one (.hptr (.var 24) (.lit 0))), .sv (.one (.int .u64 (.wrap .u64 (.var 1))))] [.hp 25 [] [.var 24] []] []) (.and (.pre (.call 1 29 [.sv (.one (.hptr (.var 24) (.lit 0))), .sv (.one (.int .u64 (.wrap .u64 (.var 2))))] [.hp 27 [25] [.var 24] []] [])) (.ext (.call 1 29 [.sv (.one (.hptr (.var 24) (.lit 0))), .sv (.one (.int .u64 (.wrap .u64 (.var 2))))] [.hp 27 [25] [.var 24] []] []) (.and (.pre (.call 2 31 [.sv (.one (.hptr (.var 24) (.lit 0))), .sv (.agg (ckCVs 3 (List.replicate 6 (Ck.int .u64))))] [.hp 29 [27, 25] [.var 24] []] [])) (.ext (.call 2 31 [.sv (.one (.hptr (.var 24) (.lit 0))), .sv (.agg (ckCVs 3 (List.replicate 6 (Ck.int .u64))))] [.hp 29 [27, 25] [.var 24] []] []) (.and (.e (.le (.lit 0) (.var 11))) (.and (.pre (.call 1 33 [.sv (.one (.hptr (.var 24) (.lit 0))), .sv (.one (.int .u64 (.wrap .u64 (.var 11))))] [.hp 31 [29, 27, 25] [.var 24] []] [])) (.ext (.call 1 33 [.sv (.one (.hptr (.var 24) (.lit 0))), .sv (.one (.int .u64 (.wrap .u64 (.var 11))))] [.hp 31 [29, 27, 25] [.var 24] []] []) (.and (.inv 0 [⟨50, 0, .int .i64 (.lit 0)⟩] [(51, some 33)]) (.havoc 0 0 35 (.and (.imp (.lt (.var 50) (.var 11)) (.and (.e (.le (.lit 0) (.var 9))) (.and (.e (.le (.lit 0) (.var 10))) (.and (.e (.le (.lit 0) (.var 50))) (.and (.e (.hks 20 (.var 9) (.add (.var 10) (.mul (.var 50) (.lit 126))) pkd)) (.ext (.alloc 60) (.and (.pre (.call 3 61 [.sv (.one (.hptr (.var 24) (.lit 0))), .sv (.agg (pcR 50))] [.hp 51 [] [.var 24] []] [.ro 21 [] true, .ro 21 [] true])) (.ext (.call 3 61 [.sv (.one (.hptr (.var 24) (.lit 0))), .sv (.agg (pcR 50))] [.hp 51 [] [.var 24] []] [.ro 21 [] true, .ro 21 [] true]) (.back 0 0 [⟨50, 0, .int .i64 (.wrap .i64 (.add (.var 50) (.lit 1)))⟩] [(51, some 61)]))))))))) (.imp (.not (.lt (.var 50) (.var 11))) (.and (.pre (.call 4 60 [.sv (.one (.hptr (.var 24) (.lit 0)))] [] [.hp 51 [] [.var 24] []])) (.ext (.call 4 60 [.sv (.one (.hptr (.var 24) (.lit 0)))] [] [.hp 51 [] [.var 24] []]) (.and (.imp (.not (.eq (.var 64) (.lit 0))) (.post [.ro 20 [.var 9] false, .ro 21 [] true, .dead, .hp 51 [] [.var 24] [], .hp 60 [] [.var 60] []] (.tup [.one (.sl (.lit (-1)) (.lit 0) (.lit 0) (.lit 0)), .one (.int .i64 (.var 64))]))) (.imp (.eq (.var 64) (.lit 0)) (.and (.e (.le (.lit 0) (.var 62))) (.and (.pre (.call 5 65 [.sv (.one (.int .i64 (.wrap .i64 (.add (.var 62) (.lit 1)))))] [] [])) (.ext (.call 5 65 [.sv (.one (.int .i64 (.wrap .i64 (.add (.var 62) (.lit 1)))))] [] []) (.and (.pre (.mk 66 5 [.int .u8 (.lit 0)] 1 (.var 65))) (.ext (.mk 66 5 [.int .u8 (.lit 0)] 1 (.var 65)) (.and (.pre (.cpy 67 66 (.var 66) (.lit 0) (.var 65) 60 (.var 60) (.var 61) (.var 62))) (.ext (.cpy 67 66 (.var 66) (.lit 0) (.var 65) 60 (.var 60) (.var 61) (.var 62)) (.and (.e (.le (.lit 0) (.var 66))) (.and (.e (.lt (.var 62) (.var 65))) (.and (.pre (.put 68 67 (.var 66) (.var 62) [.int .u8 (.lit 1)])) (.ext (.put 68 67 (.var 66) (.var 62) [.int .u8 (.lit 1)]) (.post [.ro 20 [.var 9] false, .ro 21 [] true, .dead, .hp 51 [] [.var 24] [], .hp 60 [] [.var 60] [], .hp 68 [67, 66] [.var 66] []] (.tup [.one (.sl (.var 66) (.lit 0) (.var 65) (.var 65)), .one (.int .i64 (.lit 0))])))))))))))))))))))))))))))))))))))))
noncomputable def rpBytW : Walk Tryd.prog rbyΓ 27 where
  Λ := fun p => if lpF 27 p then some ⟨0, [(35, TI .i64 (.var 50))], [(3, .hp 51 [] [.var 24] [])], 60⟩ else none
  args := rpArgs
  mem := rpMem
  nv := 22
  nd := rpBytNd
  ok := by kernel_rfl
theorem ryg0 : rbyΓ[0]? = some (formR 28) := rfl
theorem ryg1 : rbyΓ[1]? = some oNumS := rfl
theorem ryg2 : rbyΓ[2]? = some putVecS := rfl
theorem ryg3 : rbyΓ[3]? = some putPcS := rfl
theorem ryg4 : rbyΓ[4]? = some oEndS := rfl
theorem ryg5 : rbyΓ[5]? = some batchS := rfl
theorem ryr0 (f : FuncId) : (formR f).res = [.one .bool] := rfl
theorem rcQ (n : Nat) : (cpRoots n [Cp.one .sl, Cp.one (.int .i64)] ≠ []) = True := by simp [cpRoots, Cp.roots, Ck.root]
theorem ryr4 : oEndS.res = [.one .sl, .one (.int .i64)] := rfl
theorem ryr5 : batchS.res = [.one (.int .i64)] := rfl
theorem rp_rng {R RA : Hl} {q : Env} {r : Rp} (hx : IsRp R RA (rrow q) r) : ∀ k, k < 9 → rngV (((ckCVs 0 rk2).map (CV.ev q)).getD k noV) := fun k hk => hx.rng _ (by
  have hl : k < (rrow q).length := by rw [show (rrow q).length = 10 from rfl]; omega
  rw [List.getD_eq_getElem?_getD]
  show (rrow q)[k]?.getD noV ∈ _
  rw [List.getElem?_eq_getElem hl]; exact List.getElem_mem hl)
theorem rp_u64s {R RA : Hl} {ρ : Env} {r : Rp} (hx : IsRp R RA (rrow ρ) r) : u64s [ρ.i 3, ρ.i 4, ρ.i 5, ρ.i 6, ρ.i 7, ρ.i 8] := by
  have g3 := rp_rng hx 3 (by omega)
  have g4 := rp_rng hx 4 (by omega)
  have g5 := rp_rng hx 5 (by omega)
  have g6 := rp_rng hx 6 (by omega)
  have g7 := rp_rng hx 7 (by omega)
  have g8 := rp_rng hx 8 (by omega)
  intro z hz
  simp only [List.mem_cons, List.mem_nil_iff, or_false] at hz
  rcases hz with rfl | rfl | rfl | rfl | rfl | rfl
  · exact g3
  · exact g4
  · exact g5
  · exact g6
  · exact g7
  · exact g8
set_option maxRecDepth 10000 in
theorem rpBytS_ok : rpBytS.OK Tryd.prog := by
  refine Spec.of_fn (Γ := rbyΓ) rbyΓ_ok ?_
  rintro xs Hs Rs hl1 hl2 ⟨row, R, RA, r, rfl, rfl, hx⟩
  have e0 : Hs = [] := List.length_eq_zero_iff.1 hl1
  subst e0
  obtain ⟨ρ, rfl, hnm, hh⟩ := row_env [(20, R), (21, RA)] hx.ok
  have hx : IsRp R RA (rrow ρ) r := hx
  refine ⟨rpBytW, ρ, fun _ q => ∃ k : Nat, q.i 50 = k ∧ k ≤ r.p.length ∧ OP (q.h 51) (q.i 24) (rpA r ++ psB (r.p.take k)) (100 + 5048 * k), fun _ q => (r.p.length - q.i 50).toNat, rfl, ent_ro rfl (by show [ρ.h 20, ρ.h 21] = _; rw [hh, hh]; rfl), (fun _ h => nomatch h), ?_⟩
  show Nd.holds _ _ _ rpBytNd
  have hw20 : ρ.h 20 = R := hh 20
  have hw21 : ρ.h 21 = RA := hh 21
  obtain ⟨n10, n11, n12⟩ := rp_norm hnm
  have hps := hx.ps
  rw [rrow_p] at hps
  obtain ⟨hlen, hat⟩ := hps.at n10
  have hlen : ρ.i 11 = r.p.length := by omega
  obtain ⟨c0, c1, c2, c3, c4, c5, c6, c7, c8⟩ := hx.n
  have u0 : 0 ≤ ρ.i 0 ∧ ρ.i 0 < 18446744073709551616 := rp_rng hx 0 (by omega)
  have uv := rp_u64s hx
  have eA : rpA r = numB (ρ.i 0).toNat ++ numB (u64N (ρ.i 1)) ++ numB (u64N (ρ.i 2)) ++ vecB [ρ.i 3, ρ.i 4, ρ.i 5, ρ.i 6, ρ.i 7, ρ.i 8] ++ numB r.p.length := by
    unfold rpA
    rw [c0, c1, c2, show segI r.c 3 6 = [cI r.c 3, cI r.c 4, cI r.c 5, cI r.c 6, cI r.c 7, cI r.c 8] from rfl, c3, c4, c5, c6, c7, c8]
  have out : ∀ {q : Env} {mem : Mem} {x y l c e : E} {f : List Nat}, okIdx mem [] f = true → (-1 ≤ iev q x ∧ 0 ≤ iev q y ∧ 0 ≤ iev q l ∧ 0 ≤ iev q c) → iev q e = (rpRes r).2 → OwB (uni q mem f) 5 (.slice (slP (iev q x) (iev q y)) (iev q l).toNat (iev q c).toNat) (rpRes r).1 → postOf rpBytS [.agg (rrow ρ).toArray] [] [R, RA] q mem (.tup [.one (.sl x y l c), .one (.int .i64 e)]) := by
    intro q mem x y l c e f hok hn he hO _
    refine ⟨[], f, rfl, hok, ⟨{ zEnv with i := fun k => [iev q x, iev q y, iev q l, iev q c, iev q e].getD k 0 }, rfl, hn, trivial, trivial⟩, fun row' R' RA' r' e1 e2 hx' => ?_⟩
    simp only [List.cons.injEq, Value.agg.injEq, and_true] at e1 e2
    obtain ⟨rfl, rfl⟩ := e2
    obtain rfl := List.toArray_inj e1
    obtain rfl := hx.uniq hx'
    exact ⟨_, by rw [← he]; rfl, hO⟩
  unfold rpBytNd
  simp only [Nd.holds, X.pre, X.rel, X.n, Src.ok, Src.len, Src.vals, true_and, and_true, if_true, Nat.mul_one, Nat.add_zero, Nat.reduceAdd, List.length_cons, List.length_nil, bT_tt, bT_ff, bT_bvar, bT_not, bT_and, bT_or, bT_ite, bT_lt, bT_le, bT_eq, bT_beq, bT_seq, bT_hB, bT_his, bT_hby, bT_hism, bT_hks, iev_lit, iev_var, iev_add, iev_sub, iev_mul, iev_wrap, iev_ite, iev_hI, iev_hP, iev_hmlen, sev_ite, sev_slit, sev_sof, sev_svar, TV.ev, SV.ev, CV.ev, List.map_cons, List.map_nil, Res.hl, cpTV, Cp.sv, Ck.cv, cpSVs, Cp.len, Ck.len, newHs_zero, newHs_one, roots_ne, ryg0, ryg1, ryg2, ryg3, ryg4, ryg5, ryr0, apr0, abr6, abr5, ryr4, ryr5, sc2, rcQ]
  intro q1 g1 _
  rw [show (ckCVs 0 rk2).map (CV.ev q1) = rrow ρ from ag_row g1 (Nat.le_of_ble_eq_true (by kernel_rfl)), g1.h 20 (by omega), g1.h 21 (by omega), hw20, hw21]
  refine ⟨⟨_, R, RA, r, rfl, rfl, hx⟩, fun q2 g2 ⟨F2, hp2, _⟩ => ?_⟩
  have hF := hp2 _ R RA r rfl rfl hx
  have hF : (q2.b 23 = true) = r.Form := bvT (by rw [hF]; simp)
  have G2 : Agree 22 ρ q2 := g1.trans (g2.mono (by omega))
  rw [hF]
  refine ⟨fun hf => ?_, fun hf q3 g3 p3 => ?_⟩
  · have e : rpRes r = ([], 1) := by unfold rpRes; rw [if_neg hf]
    exact out (f := []) rfl ⟨Int.le_refl _, Int.le_refl _, Int.le_refl _, Int.le_refl _⟩ (by rw [e]; rfl) (by rw [e]; exact ownB_nil _ _)
  have G3 : Agree 22 ρ q3 := G2.trans (g3.mono (by omega))
  have P3 : OP (Hl.one (q3.i 24).toNat (Obj.cells #[Value.slice (slP (-1) 0) (Int.toNat 0) (Int.toNat 0), Value.bool (bev q3 E.ff)] 124 (0, 0))) (q3.i 24) [] 0 := OP.new p3
  rw [G3.i 0 (by omega)]
  refine numP P3 (by omega) (by omega) u0 fun q4 g4 P4 => ?_
  have G4 : Agree 22 ρ q4 := G3.trans (g4.mono (by omega))
  rw [G4.i 1 (by omega)]
  refine numP P4 (by omega) (by omega) (u64_in _) fun q5 g5 P5 => ?_
  have G5 : Agree 22 ρ q5 := G4.trans (g5.mono (by omega))
  rw [G5.i 2 (by omega)]
  refine numP P5 (by omega) (by omega) (u64_in _) fun q6 g6 P6 => ?_
  have G6 : Agree 22 ρ q6 := G5.trans (g6.mono (by omega))
  rw [show (ckCVs 3 (List.replicate 6 (Ck.int .u64))).map (CV.ev q6) = us [ρ.i 3, ρ.i 4, ρ.i 5, ρ.i 6, ρ.i 7, ρ.i 8] from (ag_row G6 (Nat.le_of_ble_eq_true (by kernel_rfl))).trans rfl]
  refine vecP P6 (by omega) (by omega) rfl uv fun q7 g7 P7 => ?_
  have G7 : Agree 22 ρ q7 := G6.trans (g7.mono (by omega))
  have hp8 : r.p.length ≤ 8 := hf.2.2.2.1
  have hgood : ∀ c ∈ r.p, c.Good := hf.2.2.2.2.1
  have ew : IntKind.u64.wrap (ρ.i 11) = (r.p.length : Int) := by rw [hlen, wu64 (by omega) (by omega)]
  rw [G7.i 11 (by omega), ew]
  refine ⟨by omega, numP P7 (by omega) (by omega) ⟨by omega, by omega⟩ fun q8 g8 P8 => ?_⟩
  have G8 : Agree 22 ρ q8 := G7.trans (g8.mono (by omega))
  have P8 : OP (q8.h 33) (q8.i 24) (rpA r) 100 := by
    rw [eA]; exact P8
  refine ⟨⟨0, rfl, Nat.zero_le _, ?_⟩, fun q9 g9 ⟨k, ek, hk, hO⟩ => ?_⟩
  · show OP (q8.h 33) (q8.i 24) _ _
    rw [List.take_zero, show psB [] = [] from rfl, List.append_nil]; exact P8
  have G9 : Agree 22 ρ q9 := G8.trans (g9.mono (by omega))
  rw [G9.i 9 (by omega), G9.i 10 (by omega), G9.i 11 (by omega), hlen, ek, G9.h 20 (by omega), hw20]
  refine ⟨fun hlt => ?_, fun hge => ?_⟩
  · have hkl : k < r.p.length := by omega
    have hpk : r.p[k]? = some r.p[k] := List.getElem?_eq_getElem hkl
    obtain ⟨row, hAt⟩ := hat k _ hpk
    have r1 := (hAt.rows n10 (q := q9) (by rw [G9.h 20 (by omega), hw20]) (G9.i 9 (by omega)) (G9.i 10 (by omega)) ek).1
    rw [G9.h 20 (by omega), G9.i 9 (by omega), G9.i 10 (by omega), ek, hw20] at r1
    refine ⟨hAt.x0, n10, by omega, r1, fun q10 g10 _ => ?_⟩
    have G10 : Agree 22 ρ q10 := G9.trans (g10.mono (by omega))
    have r2 := (hAt.rows n10 (q := q10) (by rw [G10.h 20 (by omega), hw20]) (G10.i 9 (by omega)) (G10.i 10 (by omega)) (by rw [g10.i 50 (by omega), ek])).2.1
    rw [r2, G10.h 21 (by omega), hw21, g10.h 51 (by omega)]
    have hO10 : OP (q9.h 51) (q10.i 24) (rpA r ++ psB (r.p.take k)) (100 + 5048 * k) := hO.to g10 (by omega)
    refine pcP hO10 (by omega) (by omega) hAt.pc (Nat.le_trans (good_len (hgood _ (List.getElem_mem hkl))) (by omega)) fun q11 g11 P11 => ?_
    have tk : r.p.take (k + 1) = r.p.take k ++ [r.p[k]] := by rw [List.take_add_one, hpk]; rfl
    have e50 : IntKind.i64.wrap (q11.i 50 + 1) = (k : Int) + 1 := by rw [g11.i 50 (by omega), g10.i 50 (by omega), ek]; exact wrap_i64 (by omega) (by omega)
    refine ⟨⟨k + 1, e50, by omega, ?_⟩, ?_⟩
    · show OP (q11.h 61) (q11.i 24) _ _
      rw [tk, psB_snoc, ← List.append_assoc]
      exact P11.upto (by omega)
    · show ((r.p.length : Int) - IntKind.i64.wrap (q11.i 50 + 1)).toNat < _
      rw [e50]; omega
  · have hke : k = r.p.length := by omega
    subst hke
    rw [List.take_length] at hO
    have hO : OP (q9.h 51) (q9.i 24) (rpB r) (100 + 5048 * r.p.length) := hO
    have hL : (rpB r).length ≤ 16000 := by
      have a1 := P8.len
      have a2 := psB_n (ps := r.p) fun c hc => by
        obtain ⟨j, hj⟩ := List.mem_iff_getElem?.1 hc
        obtain ⟨rw', hA'⟩ := hat j _ hj
        exact ⟨Nat.le_trans (good_len (hgood c hc)) (by omega), RA, RA, rw', hA'.pc⟩
      have a3 := hf.2.2.2.2.2
      unfold rpB
      rw [List.length_append]; omega
    refine ⟨⟨_, _, _, _, rfl, rfl, hO.out, by omega⟩, fun q10 g10 ⟨F10, hp10, hF10, hn10⟩ => ?_⟩
    obtain ⟨hB, hE⟩ := end_res hO.out hp10
    have eR : endR (rpB r) false = (rpB r, 0) := by unfold endR; rw [if_neg (by simp; omega)]
    rw [eR] at hB hE
    rw [← hF10 trivial] at hB
    have hB : OwB (q10.h 60) 5 (.slice (slP (q10.i 60) (q10.i 61)) (q10.i 62).toNat (q10.i 63).toNat) (rpB r) := hB
    have h64 : q10.i 64 = 0 := by simpa using hE
    have hn10 : -1 ≤ q10.i 60 ∧ 0 ≤ q10.i 61 ∧ 0 ≤ q10.i 62 ∧ 0 ≤ q10.i 63 := hn10.1
    obtain ⟨l62, hcell⟩ := hB.rd.at hn10.1 hn10.2.1 hn10.2.2.1
    refine ⟨fun h => absurd h64 h, fun _ => ⟨by omega, ?_⟩⟩
    have ew2 : IntKind.i64.wrap (q10.i 62 + 1) = ((rpB r).length : Int) + 1 := by rw [l62]; exact wrap_i64 (by omega) (by omega)
    rw [ew2]
    refine ⟨batch_pre _, fun q11 g11 ⟨F11, hp11, _⟩ => ?_⟩
    have h65 : q11.i 65 = batch ((rpB r).length + 1) := batch_res hp11
    have b1 := batch_ge (n := ((rpB r).length : Int) + 1) (by omega)
    have b2 := batch_le (((rpB r).length : Int) + 1)
    obtain ⟨N, hN⟩ : ∃ N : Nat, batch (((rpB r).length : Int) + 1) = N := ⟨(batch (((rpB r).length : Int) + 1)).toNat, by omega⟩
    rw [hN] at h65 b1 b2
    refine ⟨⟨by omega, by omega, by omega⟩, fun q12 g12 ⟨p12, h66⟩ => ?_⟩
    have l62' : q12.i 62 = (rpB r).length := by rw [g12.i 62 (by omega), g11.i 62 (by omega), l62]
    have h65' : q12.i 65 = N := by rw [g12.i 65 (by omega), h65]
    have h66 : q12.h 66 = bRow (q12.i 66).toNat (List.replicate N 0) := by
      rw [h66, ← bRow_made, h65]
      congr 2
    have hmin : (min (q12.i 62) (q12.i 65)).toNat = (rpB r).length := by omega
    have hBc : (rpB r) = [] ∨ 0 ≤ q12.i 60 ∧ ∀ j z, (rpB r)[j]? = some z → (q12.h 60).cell (q12.i 60).toNat ((q12.i 61).toNat + j) = some (.int .u8 z) := by
      have G : Agree 65 q10 q12 := g11.trans (g12.mono (by omega))
      rw [G.i 60 (by omega), G.i 61 (by omega), G.h 60 (by omega)]
      exact hcell.imp (·.2) id
    have n12 : 0 ≤ q12.i 61 := by rw [g12.i 61 (by omega), g11.i 61 (by omega)]; exact hn10.2.1
    refine ⟨⟨⟨p12, Int.le_refl _, by omega, by omega⟩, ⟨(bys (List.replicate N 0)).toArray, 5, by rw [h66]; exact Hl.one_self _ _, by simp [bys_length]; omega⟩, ?_⟩, fun q13 g13 h67 => ?_⟩
    · rcases hBc with h0 | ⟨hx0, hc⟩
      · left; rw [l62', h0]; simp; omega
      · exact Or.inr ⟨hx0, n12, cells_bytes hc (by omega)⟩
    rw [hmin, h66] at h67
    have hseg : segVals (q12.h 60) (q12.i 60).toNat (q12.i 61).toNat (rpB r).length = bys (rpB r) := by
      rcases hBc with h0 | ⟨_, hc⟩
      · rw [h0]; rfl
      · exact segVals_bys hc
    rw [hseg, bRow_put] at h67
    have k66 : q13.i 66 = q12.i 66 := g13.i 66 (by omega)
    have k62 : q13.i 62 = (rpB r).length := by rw [g13.i 62 (by omega), l62']
    have k65 : q13.i 65 = N := by rw [g13.i 65 (by omega), h65']
    refine ⟨by omega, by omega, ⟨by omega, by omega, ?_⟩, fun q14 g14 h68 => ?_⟩
    · rw [h67, k66, k62]
      unfold Hl.wr bRow
      rw [Hl.one_self]
      simp [bys_length, splice]; omega
    · rw [h67, k66, k62, Int.toNat_natCast] at h68
      have h68 : q14.h 68 = (bRow (q12.i 66).toNat (splice (List.replicate N 0) 0 (rpB r))).put (q12.i 66).toNat (rpB r).length (bys [1]) := h68
      rw [bRow_put, pad_row (by omega)] at h68
      have e : rpRes r = (rpPad (rpB r), 0) := by unfold rpRes; rw [if_pos hf]
      have ep : rpPad (rpB r) = rpB r ++ [1] ++ List.replicate (N - ((rpB r).length + 1)) 0 := by unfold rpPad; rw [hN, Int.toNat_natCast]
      have el : (rpPad (rpB r)).length = N := by rw [ep]; simp; omega
      refine out (f := [5]) rfl ⟨by show -1 ≤ q14.i 66; rw [g14.i 66 (by omega), k66]; omega, Int.le_refl _, by show 0 ≤ q14.i 65; rw [g14.i 65 (by omega), k65]; omega, by show 0 ≤ q14.i 65; rw [g14.i 65 (by omega), k65]; omega⟩ (by rw [e]; rfl) ?_
      rw [e]
      show OwB (hls [q14.h 68]) _ (.slice (slP (q14.i 66) 0) (q14.i 65).toNat (q14.i 65).toNat) _
      rw [hls_one, h68, g14.i 66 (by omega), k66, g14.i 65 (by omega), k65, Int.toNat_natCast, ← ep]
      have := bRow_own p12 (rpPad (rpB r)) (by rw [el]; unfold maxLen; omega)
      rw [el] at this; exact this
end Go.Proofs.YtomdimlnggpgbaaDoor
