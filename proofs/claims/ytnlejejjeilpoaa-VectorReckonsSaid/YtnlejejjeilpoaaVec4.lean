/- Layer 14: VectorReckons' walk. No condition. -/
import Derived.Test.YtnlejejjeilpoaaVec3
set_option linter.unusedSimpArgs false
set_option linter.unusedVariables false
set_option linter.constructorNameAsVariable false
namespace Go.Proofs.Ytnlejejjeilpoaa
open Go.RowKit Go.Flow

set_option maxRecDepth 100000 in
set_option maxHeartbeats 4000000 in
theorem reckons_any (xs ys : List Int) (w : World) (hx : Vec xs) (hy : Vec ys) :
    Calls Try.prog 4 #[vec xs, vec ys] w fun e w' => e = .returned (.bool true) ∧ Below w.heap.size w w' := by
  obtain ⟨fa, hA, hA'⟩ := getD_fun xs hx.1
  obtain ⟨fb, hB, hB'⟩ := getD_fun ys hy.1
  have uA : ∀ k, k < 6 → U64 (fa k) := fun k hk => hx.2 _ (List.mem_of_getElem? (hA k hk))
  have uB : ∀ k, k < 6 → U64 (fb k) := fun k hk => hy.2 _ (List.mem_of_getElem? (hB k hk))
  have HA := Lib.hid hA
  have HB := Lib.hid hB
  have FA := Lib.hid hA'
  have FB := Lib.hid hB'
  have UA := Lib.hid uA
  have UB := Lib.hid uB
  clear hA hB uA uB hA' hB'
  have sx : Hid (((xs.map (Value.int .u64)).toArray).size = 6) := by show _ = _; simp [hx.1]
  have sy : Hid (((ys.map (Value.int .u64)).toArray).size = 6) := by show _ = _; simp [hy.1]
  have sj : Hid (((List.zipWith max xs ys).map (Value.int .u64)).toArray.size = 6) := by show _ = _; simp [hx.1, hy.1]
  have sm : Hid (((List.zipWith min xs ys).map (Value.int .u64)).toArray.size = 6) := by show _ = _; simp [hx.1, hy.1]
  go_enter Try.func4, Try.ntmps4
  go_wp2_with fail
  with_reducible first | apply gen_wp (w0 := w) | apply gen_list (w0 := w) | apply gen_calls (w0 := w)
  case hb => (repeat (with_reducible first | apply Blocks.alloc | apply Blocks.set | apply Blocks.drew | exact hB | exact Blocks.grow hB hw | exact Blocks.nil _))
  case hg => (repeat (with_reducible first | refine Grow.alloc' ?_ | (refine Grow.set' ?_ (by first | exact Nat.le_refl _ | (simp only []; omega) | (simp; done))) | refine Grow.drew' ?_ | exact hG | exact Grow.trans hG hw | exact Grow.refl _))
  (try clear hw); (try clear hR); (try clear hI); (try clear hZ); (try clear hs0); (try clear hB); (try clear hG)
  intro W hB hG
  try simp (disch := omega) only [List.map_cons, List.map_nil, List.setIfInBounds_toArray, List.set_cons_zero, List.set_cons_succ, World.size_alloc, if_pos, if_neg, if_false, if_true] at hB
  have hR := hB.rules
  simp only [RulesAt] at hR
  have hZ := hB.lts
  simp only [LtsAt] at hZ
  have hs0 := hG.size
  have hI := Grow.refl W
  refine wp_region_flow 8 (by kernel_rfl) (by kernel_rfl) (fun M hM K hK => ?_)
  simp only [List.take_succ_cons, List.take_zero]
  repeat (first
    | (refine flow_skip (fun x => rfl) ?_; simp only [Act.put, List.setIfInBounds_toArray, List.set_cons_zero, List.set_cons_succ, Nat.zero_add, Nat.reduceAdd])
    | ((with_reducible apply flow_load_row (i := 0)); (case hx => exact fun x => rfl); (case hB => first | exact hB | exact hB.grow hw); (case hi => (simp only [List.getElem?_cons_zero, List.getElem?_cons_succ]; (with_reducible rfl))); (case hcs => first | assumption | rfl | (simp; done) | (simp; assumption)); (case hrow => kernel_rfl); (case hg => exact fun x => rfl); simp only [Act.put, List.setIfInBounds_toArray, List.set_cons_zero, List.set_cons_succ, Nat.zero_add, Nat.reduceAdd])
    | ((with_reducible apply flow_load_row (i := 1)); (case hx => exact fun x => rfl); (case hB => first | exact hB | exact hB.grow hw); (case hi => (simp only [List.getElem?_cons_zero, List.getElem?_cons_succ]; (with_reducible rfl))); (case hcs => first | assumption | rfl | (simp; done) | (simp; assumption)); (case hrow => kernel_rfl); (case hg => exact fun x => rfl); simp only [Act.put, List.setIfInBounds_toArray, List.set_cons_zero, List.set_cons_succ, Nat.zero_add, Nat.reduceAdd])
    | (apply flow_const
       · (intro x wz hz _; refine ⟨rfl, ?_⟩; unfold newAt; go_simp; simp only [newUpon]; first | exact ⟨Grow.refl _, rfl⟩ | (refine ⟨Grow.refl _, ?_⟩; first | exact calls_const (Join_l _ _ _ hx hy) | exact calls_const (Meet_l _ _ _ hx hy)))
       simp only [Act.put, List.setIfInBounds_toArray, List.set_cons_zero, List.set_cons_succ, Nat.zero_add, Nat.reduceAdd])
    | (apply flow_alloc
       · (intro x wz hz _; refine ⟨rfl, ?_⟩; unfold newAt; go_simp; simp only [newUpon]; exact ⟨Grow.alloc _ _, rfl, rfl, rfl, rfl⟩)
       simp only [Act.put, List.setIfInBounds_toArray, List.set_cons_zero, List.set_cons_succ, Nat.zero_add, Nat.reduceAdd]))
  (refine flow_nil ?_; intro x w' hz hfx hap; refine hK.out _ _ ?_; clear hK hM)
  have hw := hz
  clear hz
  simp only [List.nil_append, List.cons_append, FactsOf] at hfx
  replace hap := apartOf_all _ (by simp) hap
  simp only [List.nil_append, List.cons_append, ApartOf, NewsApart] at hap
  obtain ⟨⟨f6, g6, k6⟩, ⟨f7, g7, k7⟩, -⟩ := hfx
  simp only [mask_self] at f6 g6 k6 f7 g7 k7
  simp only [f6, f7]
  clear f6 f7
  simp only [g6, g7] at hap
  clear g6 g7
  generalize (x 6).lo = b6 at *
  generalize (x 7).lo = b7 at *
  replace hB := (((hB.grow hw).add k6).add k7)
  replace hG := hG.trans hw
  clear k6 k7
  clear hw; (try clear hR); (try clear hI)
  simp only [List.drop_succ_cons, List.drop_zero]
  try simp (disch := omega) only [List.map_cons, List.map_nil, List.setIfInBounds_toArray, List.set_cons_zero, List.set_cons_succ, World.size_alloc, if_pos, if_neg, if_false, if_true] at hB
  have hR := hB.rules
  simp only [RulesAt] at hR
  have hZ := hB.lts
  simp only [LtsAt] at hZ
  have hs0 := hG.size
  have hI := Grow.refl w'
  go_wp2_with (with_reducible apply wl_store_row2 (i := 1))
  case hx => rfl
  case hy => rfl
  case hB => first | exact hB | exact hB.grow hw
  case hG => first | exact hG | exact hG.trans hw
  case hi => rfl
  case hcl => (first | assumption | rfl | (simp; done) | (simp; assumption))
  case hcs => (first | assumption | rfl | (simp; done) | (simp; assumption))
  case hrow => kernel_rfl
  case h1 => first | exact all_ints _ _ | simp [Value.oneCell']
  case hb0 => (first | exact Nat.le_refl _ | omega)
  (try clear hw); (try clear hR); (try clear hI); (try clear hZ); (try clear hs0); (try clear hB); (try clear hG)
  intro W hB hG
  try simp (disch := omega) only [List.map_cons, List.map_nil, List.setIfInBounds_toArray, List.set_cons_zero, List.set_cons_succ, World.size_alloc, if_pos, if_neg, if_false, if_true] at hB
  have hR := hB.rules
  simp only [RulesAt] at hR
  have hZ := hB.lts
  simp only [LtsAt] at hZ
  have hs0 := hG.size
  have hI := Grow.refl W
  simp only [Act.put]
  go_wp2_with (with_reducible apply wl_store_row2 (i := 0))
  case hx => rfl
  case hy => rfl
  case hB => first | exact hB | exact hB.grow hw
  case hG => first | exact hG | exact hG.trans hw
  case hi => rfl
  case hcl => (first | assumption | rfl | (simp; done) | (simp; assumption))
  case hcs => (first | assumption | rfl | (simp; done) | (simp; assumption))
  case hrow => kernel_rfl
  case h1 => first | exact all_ints _ _ | simp [Value.oneCell']
  case hb0 => (first | exact Nat.le_refl _ | omega)
  (try clear hw); (try clear hR); (try clear hI); (try clear hZ); (try clear hs0); (try clear hB); (try clear hG)
  intro W hB hG
  try simp (disch := omega) only [List.map_cons, List.map_nil, List.setIfInBounds_toArray, List.set_cons_zero, List.set_cons_succ, World.size_alloc, if_pos, if_neg, if_false, if_true] at hB
  have hR := hB.rules
  simp only [RulesAt] at hR
  have hZ := hB.lts
  simp only [LtsAt] at hZ
  have hs0 := hG.size
  have hI := Grow.refl W
  simp only [Act.put]
  go_wp2
  go_loopg [7, 8, 9, 10] 6 (fun n t m s i wr => ∃ k : Nat, k + n = 6 ∧ i = .int .i64 k ∧ t = .int .u64 (totTo xs k) ∧ m = .int .u64 (missTo xs ys k) ∧ s = .bool (smallTo xs ys k) ∧ Grow W wr)
  case atStart => exact ⟨0, rfl, rfl, rfl, rfl, rfl, Grow.refl _⟩
  case round =>
    obtain ⟨k, hk, rfl, rfl, rfl, rfl, hw⟩ := hrel
    by_cases hlt : k < 6
    · have ha := HA.out k hlt
      have hb := HB.out k hlt
      have ua := UA.out k hlt
      have ub := UB.out k hlt
      unfold U64 at ua ub
      have hjk : (List.zipWith (fun x y => Value.int .u64 (max x y)) xs ys)[k]? = some (.int .u64 (max (fa k) (fb k))) := by simp [List.getElem?_zipWith, ha, hb]
      have hmk : (List.zipWith (fun x y => Value.int .u64 (min x y)) xs ys)[k]? = some (.int .u64 (min (fa k) (fb k))) := by simp [List.getElem?_zipWith, ha, hb]
      have htb : 0 ≤ totTo xs k ∧ totTo xs k ≤ 6291456 := by
        have := totTo_bd xs (fun i => by
          rw [FA.out]
          rcases Nat.lt_or_ge i 6 with h | h
          · exact (UA.out i h).1
          · rw [← FA.out]; simp [List.getElem?_eq_none (show xs.length ≤ i by have := hx.1; omega)]) k
        omega
      have hmb := missTo_bd xs ys k
      have ET : Hid (totTo xs (k + 1) = totTo xs k + min (fa k) 1048576) := by show _ = _; rw [totTo, FA.out]
      have EM : Hid (missTo xs ys (k + 1) = if fa k < fb k then IntKind.u64.wrap (missTo xs ys k + (fb k - fa k)) else missTo xs ys k) := by show _ = _; rw [missTo, FA.out, FB.out]
      have ES : Hid (smallTo xs ys (k + 1) = (smallTo xs ys k && decide (fa k ≤ 1099511627776) && decide (fb k ≤ 1099511627776))) := by show _ = _; rw [smallTo, FA.out, FB.out]
      have hmax : ∀ x y : Int, (if x < y then y else x) = max x y := fun x y => by split <;> omega
      have hmin : ∀ x y : Int, (if y < x then y else x) = min x y := fun x y => by split <;> omega
      go_wp2_with fail
      refine wp_region_flow 24 (by kernel_rfl) (by kernel_rfl) (fun M hM K hK => ?_)
      simp only [List.take_succ_cons, List.take_zero]
      repeat (first
        | (refine flow_skip (fun x => rfl) ?_; simp only [Act.put, List.setIfInBounds_toArray, List.set_cons_zero, List.set_cons_succ, Nat.zero_add, Nat.reduceAdd])
        | (apply flow_const
           · (intro x wz hz _; refine ⟨rfl, ?_⟩; have hYz := Grow.trans hw hz; unfold newAt; go_simp; simp only [newUpon]; first | exact ⟨Grow.refl _, rfl⟩ | fail)
           simp only [Act.put, List.setIfInBounds_toArray, List.set_cons_zero, List.set_cons_succ, Nat.zero_add, Nat.reduceAdd]))
      (refine flow_nil ?_; intro x w' hz hfx hap; refine hK.out _ _ ?_; clear hK hM)
      have hw := Grow.trans hw hz
      clear hz
      clear hfx hap
      simp only [List.drop_succ_cons, List.drop_zero]
      cases hsm : smallTo xs ys k
      all_goals
        go_wp2_with fail
        all_goals
          refine wp_region_flow 7 (by kernel_rfl) (by kernel_rfl) (fun M hM K hK => ?_)
          simp only [List.take_succ_cons, List.take_zero]
          repeat (first
            | (refine flow_skip (fun x => rfl) ?_; simp only [Act.put, List.setIfInBounds_toArray, List.set_cons_zero, List.set_cons_succ, Nat.zero_add, Nat.reduceAdd])
            | (apply flow_const
               · (intro x wz hz _; refine ⟨rfl, ?_⟩; have hYz := Grow.trans hw hz; unfold newAt; go_simp; simp only [newUpon]; first | exact ⟨Grow.refl _, rfl⟩ | fail)
               simp only [Act.put, List.setIfInBounds_toArray, List.set_cons_zero, List.set_cons_succ, Nat.zero_add, Nat.reduceAdd]))
          (refine flow_nil ?_; intro x w' hz hfx hap; refine hK.out _ _ ?_; clear hK hM)
          have hw := Grow.trans hw hz
          clear hz
          clear hfx hap
          simp only [List.drop_succ_cons, List.drop_zero]
          go_wp2_with fail
          · skip
            refine wp_region_flow 9 (by kernel_rfl) (by kernel_rfl) (fun M hM K hK => ?_)
            simp only [List.take_succ_cons, List.take_zero]
            repeat (first
              | (refine flow_skip (fun x => rfl) ?_; simp only [Act.put, List.setIfInBounds_toArray, List.set_cons_zero, List.set_cons_succ, Nat.zero_add, Nat.reduceAdd])
              | (apply flow_const
                 · (intro x wz hz _; refine ⟨rfl, ?_⟩; have hYz := Grow.trans hw hz; unfold newAt; go_simp; simp only [newUpon]; first | exact ⟨Grow.refl _, rfl⟩ | fail)
                 simp only [Act.put, List.setIfInBounds_toArray, List.set_cons_zero, List.set_cons_succ, Nat.zero_add, Nat.reduceAdd]))
            (refine flow_nil ?_; intro x w' hz hfx hap; refine hK.out _ _ ?_; clear hK hM)
            have hw := Grow.trans hw hz
            clear hz
            clear hfx hap
            simp only [List.drop_succ_cons, List.drop_zero]
            go_wp2_with fail
            go_roundg (gk - 1)
            case rel => exact ⟨k + 1, by omega, by go_num, by rw [ET.out], by rw [EM.out, if_pos (by assumption), IntWalk.u64_in (fb k - fa k) (by omega)], by rw [ES.out, hsm]; first | (simp [*]; done) | (simp [*]; omega), hw⟩
            case measure => omega
          · go_roundg (gk - 1)
            case rel => exact ⟨k + 1, by omega, by go_num, by rw [ET.out], by rw [EM.out, if_neg (by omega)], by rw [ES.out, hsm]; first | (simp [*]; done) | (simp [*]; omega), hw⟩
            case measure => omega
    · have hk6 : k = 6 := by omega
      subst hk6
      cases hsm : smallTo xs ys 6
      all_goals
        go_wp2_with fail
        refine wp_region_flow 27 (by kernel_rfl) (by kernel_rfl) (fun M hM K hK => ?_)
        simp only [List.take_succ_cons, List.take_zero]
        repeat (first
          | (refine flow_skip (fun x => rfl) ?_; simp only [Act.put, List.setIfInBounds_toArray, List.set_cons_zero, List.set_cons_succ, Nat.zero_add, Nat.reduceAdd])
          | ((with_reducible apply flow_load_row (i := 2)); (case hx => exact fun x => rfl); (case hB => first | exact hB | exact hB.grow hw); (case hi => (simp only [List.getElem?_cons_zero, List.getElem?_cons_succ]; (with_reducible rfl))); (case hcs => first | assumption | rfl | (simp; done) | (simp; assumption)); (case hrow => kernel_rfl); (case hg => exact fun x => rfl); simp only [Act.put, List.setIfInBounds_toArray, List.set_cons_zero, List.set_cons_succ, Nat.zero_add, Nat.reduceAdd])
          | ((with_reducible apply flow_load_row (i := 3)); (case hx => exact fun x => rfl); (case hB => first | exact hB | exact hB.grow hw); (case hi => (simp only [List.getElem?_cons_zero, List.getElem?_cons_succ]; (with_reducible rfl))); (case hcs => first | assumption | rfl | (simp; done) | (simp; assumption)); (case hrow => kernel_rfl); (case hg => exact fun x => rfl); simp only [Act.put, List.setIfInBounds_toArray, List.set_cons_zero, List.set_cons_succ, Nat.zero_add, Nat.reduceAdd])
          | (apply flow_const
             · (intro x wz hz _; refine ⟨rfl, ?_⟩; have hYz := Grow.trans hw hz; unfold newAt; go_simp; simp only [newUpon]; first | exact ⟨Grow.refl _, rfl⟩ | (refine ⟨Grow.refl _, ?_⟩; first | exact calls_const (awake_any _) | exact calls_const (Great_l _ _ _ hx hy) | exact calls_const (refGreat_any _ _ _ hx.1 hy.1) | exact calls_const (Total_l _ _ hx) | exact calls_const (Missing_l _ _ _ hx hy hsm)))
             simp only [Act.put, List.setIfInBounds_toArray, List.set_cons_zero, List.set_cons_succ, Nat.zero_add, Nat.reduceAdd]))
        (refine flow_nil ?_; intro x w' hz hfx hap; refine hK.out _ _ ?_; clear hK hM)
        have hw := Grow.trans hw hz
        clear hz
        clear hfx hap
        simp only [List.drop_succ_cons, List.drop_zero]
        go_wp2
        go_ret
        exact ⟨rfl, hG.trans hw⟩
end Go.Proofs.Ytnlejejjeilpoaa
