/- Layer 14: the reference's Great; VectorReckons. No condition. -/
import Derived.Test.YtnlejejjeilpoaaVec2
import Derived.Test.YtnlejejjeilpoaaFlow2
import Derived.Test.YtnlejejjeilpoaaRead
import Derived.Deep.LoopGhost
import Derived.Laws.Closers25b
set_option linter.unusedSimpArgs false
set_option linter.unusedVariables false
set_option linter.constructorNameAsVariable false
namespace Go.Proofs.Ytnlejejjeilpoaa
open Go.RowKit Go.Flow

/-- A vector's value. -/
abbrev vec (l : List Int) : Value := .agg (l.map (Value.int .u64)).toArray

/-- A vector: six numbers of 64 bits. -/
def Vec (l : List Int) : Prop := l.length = 6 ∧ ∀ x ∈ l, U64 x

def greatL (xs ys : List Int) : Bool := (List.range 6).all fun i => decide (ys.getD i 0 ≤ xs.getD i 0)
theorem greatL_true {xs ys : List Int} (h : ∀ i, i < 6 → ys.getD i 0 ≤ xs.getD i 0) : greatL xs ys = true := by
  simp only [greatL, List.all_eq_true, List.mem_range, decide_eq_true_eq]; exact h
theorem greatL_false {xs ys : List Int} (i : Nat) (hi : i < 6) (h : xs.getD i 0 < ys.getD i 0) : greatL xs ys = false := by
  cases hg : greatL xs ys
  · rfl
  · simp only [greatL, List.all_eq_true, List.mem_range, decide_eq_true_eq] at hg
    have := hg i hi
    omega

theorem Vec.six {l : List Int} (h : Vec l) : ∃ x0 x1 x2 x3 x4 x5 : Int, l = [x0, x1, x2, x3, x4, x5] ∧ U6 x0 x1 x2 x3 x4 x5 := by
  obtain ⟨x0, x1, x2, x3, x4, x5, rfl⟩ := six_of h.1
  exact ⟨x0, x1, x2, x3, x4, x5, rfl, h.2 _ (by simp), h.2 _ (by simp), h.2 _ (by simp), h.2 _ (by simp), h.2 _ (by simp), h.2 _ (by simp)⟩

theorem greatL_six (a0 a1 a2 a3 a4 a5 b0 b1 b2 b3 b4 b5 : Int) : greatL [a0, a1, a2, a3, a4, a5] [b0, b1, b2, b3, b4, b5] = great a0 a1 a2 a3 a4 a5 b0 b1 b2 b3 b4 b5 := by
  rw [Bool.eq_iff_iff]
  simp [greatL, great, List.range_succ]

theorem Join_l (xs ys : List Int) (w : World) (hx : Vec xs) (hy : Vec ys) :
    Calls Try.prog 8 #[vec xs, vec ys] w fun e w' => e = .returned (vec (List.zipWith max xs ys)) ∧ Below w.heap.size w w' := by
  obtain ⟨a0, a1, a2, a3, a4, a5, rfl, ha⟩ := hx.six
  obtain ⟨b0, b1, b2, b3, b4, b5, rfl, hb⟩ := hy.six
  exact Join_any _ _ _ _ _ _ _ _ _ _ _ _ w ha hb
theorem Meet_l (xs ys : List Int) (w : World) (hx : Vec xs) (hy : Vec ys) :
    Calls Try.prog 9 #[vec xs, vec ys] w fun e w' => e = .returned (vec (List.zipWith min xs ys)) ∧ Below w.heap.size w w' := by
  obtain ⟨a0, a1, a2, a3, a4, a5, rfl, ha⟩ := hx.six
  obtain ⟨b0, b1, b2, b3, b4, b5, rfl, hb⟩ := hy.six
  exact Meet_any _ _ _ _ _ _ _ _ _ _ _ _ w ha hb
theorem Great_l (xs ys : List Int) (w : World) (hx : Vec xs) (hy : Vec ys) :
    Calls Try.prog 10 #[vec xs, vec ys] w fun e w' => e = .returned (.bool (greatL xs ys)) ∧ Below w.heap.size w w' := by
  obtain ⟨a0, a1, a2, a3, a4, a5, rfl, ha⟩ := hx.six
  obtain ⟨b0, b1, b2, b3, b4, b5, rfl, hb⟩ := hy.six
  rw [greatL_six]
  exact Great_any _ _ _ _ _ _ _ _ _ _ _ _ w ha hb

/-- The sum so far, of the first k. -/
def totTo (xs : List Int) : Nat → Int
  | 0 => 0
  | k + 1 => totTo xs k + min (xs.getD k 0) 1048576
def smallTo (xs ys : List Int) : Nat → Bool
  | 0 => true
  | k + 1 => smallTo xs ys k && decide (xs.getD k 0 ≤ 1099511627776) && decide (ys.getD k 0 ≤ 1099511627776)
def missTo (xs ys : List Int) : Nat → Int
  | 0 => 0
  | k + 1 => if xs.getD k 0 < ys.getD k 0 then IntKind.u64.wrap (missTo xs ys k + (ys.getD k 0 - xs.getD k 0)) else missTo xs ys k

theorem Total_l (xs : List Int) (w : World) (hx : Vec xs) :
    Calls Try.prog 14 #[vec xs] w fun e w' => e = .returned (.int .u64 (totTo xs 6)) ∧ Below w.heap.size w w' := by
  obtain ⟨a0, a1, a2, a3, a4, a5, rfl, ha⟩ := hx.six
  refine calls_eq (Total_any _ _ _ _ _ _ w ha) (congrArg (Value.int .u64) ?_)
  simp [totTo, total]

theorem Missing_l (xs ys : List Int) (w : World) (hx : Vec xs) (hy : Vec ys) (hs : smallTo xs ys 6 = true) :
    Calls Try.prog 12 #[vec xs, vec ys] w fun e w' => e = .returned (.int .u64 (missTo xs ys 6)) ∧ Below w.heap.size w w' := by
  obtain ⟨a0, a1, a2, a3, a4, a5, rfl, ha⟩ := hx.six
  obtain ⟨b0, b1, b2, b3, b4, b5, rfl, hb⟩ := hy.six
  refine calls_eq (Missing_any _ _ _ _ _ _ _ _ _ _ _ _ w ha hb) (congrArg (Value.int .u64) ?_)
  simp only [U6, U64] at ha hb
  simp [smallTo] at hs
  have step : ∀ m a b : Int, 0 ≤ m → m ≤ 6597069766656 → 0 ≤ a → 0 ≤ b → b ≤ 1099511627776 → (if a < b then IntKind.u64.wrap (m + (b - a)) else m) = m + moreOf a b := by
    intro m a b h1 h2 h3 h4 h5
    unfold moreOf
    split
    · have e : IntKind.u64.wrap (m + (b - a)) = m + (b - a) := by
        simp only [IntKind.wrap, IntKind.signed, IntKind.bits]
        simp
        omega
      rw [e]; omega
    · omega
  have hm : ∀ a b, 0 ≤ a → b ≤ 1099511627776 → 0 ≤ moreOf a b ∧ moreOf a b ≤ 1099511627776 := by
    intro a b h1 h2; unfold moreOf; split <;> omega
  have m0 := hm a0 b0 (by omega) (by omega)
  have m1 := hm a1 b1 (by omega) (by omega)
  have m2 := hm a2 b2 (by omega) (by omega)
  have m3 := hm a3 b3 (by omega) (by omega)
  have m4 := hm a4 b4 (by omega) (by omega)
  have m5 := hm a5 b5 (by omega) (by omega)
  have s0 := step 0 a0 b0 (by omega) (by omega) (by omega) (by omega) (by omega)
  have s1 := step (0 + moreOf a0 b0) a1 b1 (by omega) (by omega) (by omega) (by omega) (by omega)
  have s2 := step (0 + moreOf a0 b0 + moreOf a1 b1) a2 b2 (by omega) (by omega) (by omega) (by omega) (by omega)
  have s3 := step (0 + moreOf a0 b0 + moreOf a1 b1 + moreOf a2 b2) a3 b3 (by omega) (by omega) (by omega) (by omega) (by omega)
  have s4 := step (0 + moreOf a0 b0 + moreOf a1 b1 + moreOf a2 b2 + moreOf a3 b3) a4 b4 (by omega) (by omega) (by omega) (by omega) (by omega)
  have s5 := step (0 + moreOf a0 b0 + moreOf a1 b1 + moreOf a2 b2 + moreOf a3 b3 + moreOf a4 b4) a5 b5 (by omega) (by omega) (by omega) (by omega) (by omega)
  simp only [missTo, List.getD_cons_zero, List.getD_cons_succ]
  rw [s0, s1, s2, s3, s4, s5]
  omega

theorem getD_fun (xs : List Int) (h : xs.length = 6) : ∃ f : Nat → Int, (∀ k, k < 6 → xs[k]? = some (f k)) ∧ ∀ k, xs.getD k 0 = f k :=
  ⟨fun k => xs.getD k 0, fun k hk => by simp [List.getElem?_eq_getElem (show k < xs.length by omega)], fun _ => rfl⟩

set_option maxHeartbeats 1000000 in
theorem refGreat_any (xs ys : List Int) (w : World) (hx : xs.length = 6) (hy : ys.length = 6) :
    Calls Try.prog 13 #[vec xs, vec ys] w fun e w' => e = .returned (.bool (greatL xs ys)) ∧ Below w.heap.size w w' := by
  obtain ⟨fa, hA, hA'⟩ := getD_fun xs hx
  obtain ⟨fb, hB, hB'⟩ := getD_fun ys hy
  have HA := Lib.hid hA
  have HB := Lib.hid hB
  have FA := Lib.hid hA'
  have FB := Lib.hid hB'
  clear hA hB hA' hB' hx hy
  go_enter Try.func13, Try.ntmps13
  go_wp2
  with_reducible first | apply gen_wp (w0 := w) | apply gen_list (w0 := w) | apply gen_calls (w0 := w)
  case hb => (repeat (with_reducible first | apply Blocks.alloc | apply Blocks.set | apply Blocks.drew | exact hB | exact Blocks.grow hB hw | exact Blocks.nil _))
  case hg => (repeat (with_reducible first | refine Grow.alloc' ?_ | (refine Grow.set' ?_ (by first | exact Nat.le_refl _ | (simp only []; omega) | (simp; done))) | refine Grow.drew' ?_ | exact hG | exact Grow.trans hG hw | exact Grow.refl _))
  (try clear hw); (try clear hR); (try clear hI); (try clear hZ); (try clear hs0); (try clear hB); (try clear hG)
  intro W hB hG
  try simp (disch := omega) only [List.map_cons, List.map_nil, List.setIfInBounds_toArray, List.set_cons_zero, List.set_cons_succ, World.size_alloc, if_pos, if_neg, if_false, if_true] at hB
  have hR := hB.rules
  simp only [RulesAt] at hR
  have hZ := hB.lts
  simp only [LtsAt] at hZ
  have hs0 := hG.size
  have hI := Grow.refl W
  go_loopg [5] 6 (fun n i wr => ∃ k : Nat, k + n = 6 ∧ i = .int .i64 k ∧ Grow W wr ∧ Hid (∀ j, j < k → fb j ≤ fa j))
  case atStart => exact ⟨0, rfl, rfl, Grow.refl _, fun j h => absurd h (by omega)⟩
  case round =>
    obtain ⟨k, hk, rfl, hw, hd⟩ := hrel
    by_cases hlt : k < 6
    · have ha := HA.out k hlt
      have hb := HB.out k hlt
      go_wp2_with fail
      refine wp_region_flow 7 (by kernel_rfl) (by kernel_rfl) (fun M hM K hK => ?_)
      simp only [List.take_succ_cons, List.take_zero]
      repeat (first
        | (refine flow_skip (fun x => rfl) ?_; simp only [Act.put, List.setIfInBounds_toArray, List.set_cons_zero, List.set_cons_succ, Nat.zero_add, Nat.reduceAdd])
        | (apply flow_const
           · (intro x wz hz _; refine ⟨rfl, ?_⟩; have hy := Grow.trans hw hz; unfold newAt; go_simp; simp only [newUpon]; first | exact ⟨Grow.refl _, rfl⟩ | fail)
           simp only [Act.put, List.setIfInBounds_toArray, List.set_cons_zero, List.set_cons_succ, Nat.zero_add, Nat.reduceAdd]))
      (refine flow_nil ?_; intro x w' hz hfx hap; refine hK.out _ _ ?_; clear hK hM)
      have hw := Grow.trans hw hz
      clear hz
      clear hfx hap
      simp only [List.drop_succ_cons, List.drop_zero]
      go_wp2_with fail
      · have hno : fa k < fb k := by assumption
        go_ret
        refine ⟨congrArg (fun b => Ending.returned (Value.bool b)) ?_, hG.trans hw⟩
        exact (greatL_false k hlt (by rw [FA.out, FB.out]; exact hno)).symm
      · have hyes : fb k ≤ fa k := by assumption
        go_roundg (gk - 1)
        case rel => exact ⟨k + 1, by omega, by go_num, hw, fun j hj => by
          rcases Nat.lt_or_ge j k with h | h
          · exact hd.out j h
          · have : j = k := by omega
            subst this; exact hyes⟩
        case measure => omega
    · have hk6 : k = 6 := by omega
      go_wp2
      go_ret
      refine ⟨congrArg (fun b => Ending.returned (Value.bool b)) ?_, hG.trans hw⟩
      exact (greatL_true fun i hi => by rw [FA.out, FB.out]; exact hd.out i (by omega)).symm

theorem totTo_bd (xs : List Int) (h : ∀ i, 0 ≤ xs.getD i 0) : ∀ k, 0 ≤ totTo xs k ∧ totTo xs k ≤ k * 1048576
  | 0 => by simp [totTo]
  | k + 1 => by have := totTo_bd xs h k; have := h k; simp only [totTo]; omega
theorem wrap_u64_bd (x : Int) : 0 ≤ IntKind.u64.wrap x ∧ IntKind.u64.wrap x < 18446744073709551616 := by
  obtain ⟨h1, h2⟩ := wrap_within .u64 x
  have e1 : IntKind.u64.min = 0 := rfl
  have e2 : IntKind.u64.max = 18446744073709551615 := rfl
  omega
theorem missTo_bd (xs ys : List Int) : ∀ k, 0 ≤ missTo xs ys k ∧ missTo xs ys k < 18446744073709551616
  | 0 => by simp [missTo]
  | k + 1 => by
    simp only [missTo]
    split
    · exact wrap_u64_bd _
    · exact missTo_bd xs ys k

end Go.Proofs.Ytnlejejjeilpoaa
