/- Layer 14: VectorJoins: a join is as great as both, a meet is no greater than either. No condition. -/
import Derived.Test.YtnlejejjeilpoaaVec1
set_option linter.unusedSimpArgs false
set_option linter.unusedVariables false
set_option linter.constructorNameAsVariable false
namespace Go.Proofs.Ytnlejejjeilpoaa
open Go.RowKit Go.Flow

theorem Great_is (a0 a1 a2 a3 a4 a5 b0 b1 b2 b3 b4 b5 : Int) (w : World) (ha : U6 a0 a1 a2 a3 a4 a5) (hb : U6 b0 b1 b2 b3 b4 b5) {r : Bool} (hr : great a0 a1 a2 a3 a4 a5 b0 b1 b2 b3 b4 b5 = r) :
    Calls Try.prog 10 #[.agg #[.int .u64 a0, .int .u64 a1, .int .u64 a2, .int .u64 a3, .int .u64 a4, .int .u64 a5], .agg #[.int .u64 b0, .int .u64 b1, .int .u64 b2, .int .u64 b3, .int .u64 b4, .int .u64 b5]] w fun e w' => e = .returned (.bool r) ∧ Below w.heap.size w w' :=
  hr ▸ Great_any _ _ _ _ _ _ _ _ _ _ _ _ w ha hb

theorem Missing_none (a0 a1 a2 a3 a4 a5 b0 b1 b2 b3 b4 b5 : Int) (w : World) (ha : U6 a0 a1 a2 a3 a4 a5) (hb : U6 b0 b1 b2 b3 b4 b5) (h : great a0 a1 a2 a3 a4 a5 b0 b1 b2 b3 b4 b5 = true) :
    Calls Try.prog 12 #[.agg #[.int .u64 a0, .int .u64 a1, .int .u64 a2, .int .u64 a3, .int .u64 a4, .int .u64 a5], .agg #[.int .u64 b0, .int .u64 b1, .int .u64 b2, .int .u64 b3, .int .u64 b4, .int .u64 b5]] w fun e w' => e = .returned (.int .u64 0) ∧ Below w.heap.size w w' := by
  refine calls_eq (Missing_any _ _ _ _ _ _ _ _ _ _ _ _ w ha hb) ?_
  simp only [great, decide_eq_true_eq] at h
  refine congrArg (Value.int .u64) ?_
  simp only [moreOf]
  rw [if_neg (show ¬ a0 < b0 by omega), if_neg (show ¬ a1 < b1 by omega), if_neg (show ¬ a2 < b2 by omega), if_neg (show ¬ a3 < b3 by omega), if_neg (show ¬ a4 < b4 by omega), if_neg (show ¬ a5 < b5 by omega)]
  rfl

set_option maxHeartbeats 4000000 in
theorem joins_true_true (a0 a1 a2 a3 a4 a5 b0 b1 b2 b3 b4 b5 c0 c1 c2 c3 c4 c5 : Int) (w : World) (ha : U6 a0 a1 a2 a3 a4 a5) (hb : U6 b0 b1 b2 b3 b4 b5) (hc : U6 c0 c1 c2 c3 c4 c5) (hca : great c0 c1 c2 c3 c4 c5 a0 a1 a2 a3 a4 a5 = true) (hcb : great c0 c1 c2 c3 c4 c5 b0 b1 b2 b3 b4 b5 = true) :
    Calls Try.prog 3 #[.agg #[.int .u64 a0, .int .u64 a1, .int .u64 a2, .int .u64 a3, .int .u64 a4, .int .u64 a5], .agg #[.int .u64 b0, .int .u64 b1, .int .u64 b2, .int .u64 b3, .int .u64 b4, .int .u64 b5], .agg #[.int .u64 c0, .int .u64 c1, .int .u64 c2, .int .u64 c3, .int .u64 c4, .int .u64 c5]] w fun e w' => e = .returned (.bool true) ∧ Below w.heap.size w w' := by
  have hj : U6 (max a0 b0) (max a1 b1) (max a2 b2) (max a3 b3) (max a4 b4) (max a5 b5) := by simp only [U6, U64] at *; omega
  have hm : U6 (min a0 b0) (min a1 b1) (min a2 b2) (min a3 b3) (min a4 b4) (min a5 b5) := by simp only [U6, U64] at *; omega
  have G1 : great (max a0 b0) (max a1 b1) (max a2 b2) (max a3 b3) (max a4 b4) (max a5 b5) a0 a1 a2 a3 a4 a5 = true := by simp only [great, decide_eq_true_eq]; omega
  have G2 : great (max a0 b0) (max a1 b1) (max a2 b2) (max a3 b3) (max a4 b4) (max a5 b5) b0 b1 b2 b3 b4 b5 = true := by simp only [great, decide_eq_true_eq]; omega
  have G3 : great a0 a1 a2 a3 a4 a5 (min a0 b0) (min a1 b1) (min a2 b2) (min a3 b3) (min a4 b4) (min a5 b5) = true := by simp only [great, decide_eq_true_eq]; omega
  have G4 : great b0 b1 b2 b3 b4 b5 (min a0 b0) (min a1 b1) (min a2 b2) (min a3 b3) (min a4 b4) (min a5 b5) = true := by simp only [great, decide_eq_true_eq]; omega
  have G5 : great c0 c1 c2 c3 c4 c5 (max a0 b0) (max a1 b1) (max a2 b2) (max a3 b3) (max a4 b4) (max a5 b5) = (great c0 c1 c2 c3 c4 c5 a0 a1 a2 a3 a4 a5 && great c0 c1 c2 c3 c4 c5 b0 b1 b2 b3 b4 b5) := by
    rw [Bool.eq_iff_iff]; simp only [great, Bool.and_eq_true, decide_eq_true_eq]; omega
  rw [hca, hcb] at G5
  simp only [Bool.and_true, Bool.true_and, Bool.and_false, Bool.false_and, Bool.and_self] at G5
  have heq := eql_vec
  have C0 : max b0 a0 = max a0 b0 := by omega
  have C1 : max b1 a1 = max a1 b1 := by omega
  have C2 : max b2 a2 = max a2 b2 := by omega
  have C3 : max b3 a3 = max a3 b3 := by omega
  have C4 : max b4 a4 = max a4 b4 := by omega
  have C5 : max b5 a5 = max a5 b5 := by omega
  go_enter Try.func3, Try.ntmps3
  go_wp2_with fail
  with_reducible first | apply gen_wp (w0 := w) | apply gen_list (w0 := w) | apply gen_calls (w0 := w)
  case hb => (repeat (with_reducible first | apply Blocks.alloc | apply Blocks.set | apply Blocks.drew | exact hB | exact Blocks.grow hB hw | exact Blocks.nil _))
  case hg => (repeat (with_reducible first | refine Grow.alloc' ?_ | (refine Grow.set' ?_ (by first | exact Nat.le_refl _ | (simp only []; omega) | (simp; done))) | refine Grow.drew' ?_ | exact hG | exact Grow.trans hG hw | exact Grow.refl _))
  (try clear hw); (try clear hR); (try clear hI); (try clear hZ); (try clear hs0); (try clear hB); (try clear hG)
  intro W hB hG
  try simp (disch := omega) only [List.map_cons, List.map_nil, List.setIfInBounds_toArray, List.set_cons_zero, List.set_cons_succ, World.size_alloc, if_pos, if_neg, if_false, if_true] at hB
  have hR := hB.rules
  simp only [RulesAt] at hR
  have hZ := hB.lts
  simp only [LtsAt] at hZ
  have hs0 := hG.size
  have hI := Grow.refl W
  refine wp_region_flow 8 (by kernel_rfl) (by kernel_rfl) (fun M hM K hK => ?_)
  simp only [List.take_succ_cons, List.take_zero]
  repeat (first
    | (refine flow_skip (fun x => rfl) ?_; simp only [Act.put, List.setIfInBounds_toArray, List.set_cons_zero, List.set_cons_succ, Nat.zero_add, Nat.reduceAdd])
    | (apply flow_const
       · (intro x wz hz _; refine ⟨rfl, ?_⟩; unfold newAt; go_simp; simp only [newUpon]; first | exact ⟨Grow.refl _, rfl⟩ | (refine ⟨Grow.refl _, ?_⟩; first | exact calls_const (Join_any _ _ _ _ _ _ _ _ _ _ _ _ _ ha hb) | exact calls_const (Meet_any _ _ _ _ _ _ _ _ _ _ _ _ _ ha hb)))
       simp only [Act.put, List.setIfInBounds_toArray, List.set_cons_zero, List.set_cons_succ, Nat.zero_add, Nat.reduceAdd])
    | (apply flow_alloc
       · (intro x wz hz _; refine ⟨rfl, ?_⟩; unfold newAt; go_simp; simp only [newUpon]; exact ⟨Grow.alloc _ _, rfl, rfl, rfl, rfl⟩)
       simp only [Act.put, List.setIfInBounds_toArray, List.set_cons_zero, List.set_cons_succ, Nat.zero_add, Nat.reduceAdd]))
  (refine flow_nil ?_; intro x w' hz hfx hap; refine hK.out _ _ ?_; clear hK hM)
  have hw := hz
  clear hz
  simp only [List.nil_append, List.cons_append, FactsOf] at hfx
  replace hap := apartOf_all _ (by simp) hap
  simp only [List.nil_append, List.cons_append, ApartOf, NewsApart] at hap
  obtain ⟨⟨f6, g6, k6⟩, ⟨f7, g7, k7⟩, -⟩ := hfx
  simp only [mask_self] at f6 g6 k6 f7 g7 k7
  simp only [f6, f7]
  clear f6 f7
  simp only [g6, g7] at hap
  clear g6 g7
  generalize (x 6).lo = b6 at *
  generalize (x 7).lo = b7 at *
  replace hB := (((hB.grow hw).add k6).add k7)
  replace hG := hG.trans hw
  clear k6 k7
  clear hw; (try clear hR); (try clear hI)
  simp only [List.drop_succ_cons, List.drop_zero]
  try simp (disch := omega) only [List.map_cons, List.map_nil, List.setIfInBounds_toArray, List.set_cons_zero, List.set_cons_succ, World.size_alloc, if_pos, if_neg, if_false, if_true] at hB
  have hR := hB.rules
  simp only [RulesAt] at hR
  have hZ := hB.lts
  simp only [LtsAt] at hZ
  have hs0 := hG.size
  have hI := Grow.refl w'
  go_wp2_with (with_reducible apply wl_store_row (i := 1))
  case hx => rfl
  case hy => rfl
  case hB => first | exact hB | exact hB.grow hw
  case hG => first | exact hG | exact hG.trans hw
  case hi => rfl
  case hsz => kernel_rfl
  case hcs => rfl
  case h1 => simp [Value.oneCell']
  case hb0 => (first | exact Nat.le_refl _ | omega)
  (try clear hw); (try clear hR); (try clear hI); (try clear hZ); (try clear hs0); (try clear hB); (try clear hG)
  intro W hB hG
  try simp (disch := omega) only [List.map_cons, List.map_nil, List.setIfInBounds_toArray, List.set_cons_zero, List.set_cons_succ, World.size_alloc, if_pos, if_neg, if_false, if_true] at hB
  have hR := hB.rules
  simp only [RulesAt] at hR
  have hZ := hB.lts
  simp only [LtsAt] at hZ
  have hs0 := hG.size
  have hI := Grow.refl W
  simp only [Act.put]
  go_wp2_with (with_reducible apply wl_store_row (i := 0))
  case hx => rfl
  case hy => rfl
  case hB => first | exact hB | exact hB.grow hw
  case hG => first | exact hG | exact hG.trans hw
  case hi => rfl
  case hsz => kernel_rfl
  case hcs => rfl
  case h1 => simp [Value.oneCell']
  case hb0 => (first | exact Nat.le_refl _ | omega)
  (try clear hw); (try clear hR); (try clear hI); (try clear hZ); (try clear hs0); (try clear hB); (try clear hG)
  intro W hB hG
  try simp (disch := omega) only [List.map_cons, List.map_nil, List.setIfInBounds_toArray, List.set_cons_zero, List.set_cons_succ, World.size_alloc, if_pos, if_neg, if_false, if_true] at hB
  have hR := hB.rules
  simp only [RulesAt] at hR
  have hZ := hB.lts
  simp only [LtsAt] at hZ
  have hs0 := hG.size
  have hI := Grow.refl W
  simp only [Act.put]
  iterate 2
    try
      go_wp2_with fail
      with_reducible first | apply gen_wp (w0 := w) | apply gen_list (w0 := w) | apply gen_calls (w0 := w)
      case hb => (repeat (with_reducible first | apply Blocks.alloc | apply Blocks.set | apply Blocks.drew | exact hB | exact Blocks.grow hB hw | exact Blocks.nil _))
      case hg => (repeat (with_reducible first | refine Grow.alloc' ?_ | (refine Grow.set' ?_ (by first | exact Nat.le_refl _ | (simp only []; omega) | (simp; done))) | refine Grow.drew' ?_ | exact hG | exact Grow.trans hG hw | exact Grow.refl _))
      (try clear hw); (try clear hR); (try clear hI); (try clear hZ); (try clear hs0); (try clear hB); (try clear hG)
      intro W hB hG
      try simp (disch := omega) only [List.map_cons, List.map_nil, List.setIfInBounds_toArray, List.set_cons_zero, List.set_cons_succ, World.size_alloc, if_pos, if_neg, if_false, if_true] at hB
      have hR := hB.rules
      simp only [RulesAt] at hR
      have hZ := hB.lts
      simp only [LtsAt] at hZ
      have hs0 := hG.size
      have hI := Grow.refl W
      refine (Great_is _ _ _ _ _ _ _ _ _ _ _ _ _ (by assumption) (by assumption) (by assumption)).mono ?_
      rintro e w' ⟨rfl, hw⟩
  go_wp2_with fail
  with_reducible first | apply gen_wp (w0 := w) | apply gen_list (w0 := w) | apply gen_calls (w0 := w)
  case hb => (repeat (with_reducible first | apply Blocks.alloc | apply Blocks.set | apply Blocks.drew | exact hB | exact Blocks.grow hB hw | exact Blocks.nil _))
  case hg => (repeat (with_reducible first | refine Grow.alloc' ?_ | (refine Grow.set' ?_ (by first | exact Nat.le_refl _ | (simp only []; omega) | (simp; done))) | refine Grow.drew' ?_ | exact hG | exact Grow.trans hG hw | exact Grow.refl _))
  (try clear hw); (try clear hR); (try clear hI); (try clear hZ); (try clear hs0); (try clear hB); (try clear hG)
  intro W hB hG
  try simp (disch := omega) only [List.map_cons, List.map_nil, List.setIfInBounds_toArray, List.set_cons_zero, List.set_cons_succ, World.size_alloc, if_pos, if_neg, if_false, if_true] at hB
  have hR := hB.rules
  simp only [RulesAt] at hR
  have hZ := hB.lts
  simp only [LtsAt] at hZ
  have hs0 := hG.size
  have hI := Grow.refl W
  refine wp_region_flow 41 (by kernel_rfl) (by kernel_rfl) (fun M hM K hK => ?_)
  simp only [List.take_succ_cons, List.take_zero]
  repeat (first
    | (refine flow_skip (fun x => rfl) ?_; simp only [Act.put, List.setIfInBounds_toArray, List.set_cons_zero, List.set_cons_succ, Nat.zero_add, Nat.reduceAdd])
    | (apply flow_const
       · (intro x wz hz _; refine ⟨rfl, ?_⟩; unfold newAt; go_simp; simp only [newUpon]; first | exact ⟨Grow.refl _, rfl⟩ | (refine ⟨Grow.refl _, ?_⟩; first | exact calls_const (awake_any _) | exact calls_const (Great_is _ _ _ _ _ _ _ _ _ _ _ _ _ (by assumption) (by assumption) (by assumption)) | exact calls_const (Join_any _ _ _ _ _ _ _ _ _ _ _ _ _ hb ha) | exact calls_const (Missing_none _ _ _ _ _ _ _ _ _ _ _ _ _ (by assumption) (by assumption) (by assumption))))
       simp only [Act.put, List.setIfInBounds_toArray, List.set_cons_zero, List.set_cons_succ, Nat.zero_add, Nat.reduceAdd]))
  (refine flow_nil ?_; intro x w' hz hfx hap; refine hK.out _ _ ?_; clear hK hM)
  have hw := hz
  clear hz
  clear hfx hap
  simp only [List.drop_succ_cons, List.drop_zero]
  go_wp2
  go_ret
  exact ⟨rfl, hG.trans hw⟩

set_option maxHeartbeats 4000000 in
theorem joins_true_false (a0 a1 a2 a3 a4 a5 b0 b1 b2 b3 b4 b5 c0 c1 c2 c3 c4 c5 : Int) (w : World) (ha : U6 a0 a1 a2 a3 a4 a5) (hb : U6 b0 b1 b2 b3 b4 b5) (hc : U6 c0 c1 c2 c3 c4 c5) (hca : great c0 c1 c2 c3 c4 c5 a0 a1 a2 a3 a4 a5 = true) (hcb : great c0 c1 c2 c3 c4 c5 b0 b1 b2 b3 b4 b5 = false) :
    Calls Try.prog 3 #[.agg #[.int .u64 a0, .int .u64 a1, .int .u64 a2, .int .u64 a3, .int .u64 a4, .int .u64 a5], .agg #[.int .u64 b0, .int .u64 b1, .int .u64 b2, .int .u64 b3, .int .u64 b4, .int .u64 b5], .agg #[.int .u64 c0, .int .u64 c1, .int .u64 c2, .int .u64 c3, .int .u64 c4, .int .u64 c5]] w fun e w' => e = .returned (.bool true) ∧ Below w.heap.size w w' := by
  have hj : U6 (max a0 b0) (max a1 b1) (max a2 b2) (max a3 b3) (max a4 b4) (max a5 b5) := by simp only [U6, U64] at *; omega
  have hm : U6 (min a0 b0) (min a1 b1) (min a2 b2) (min a3 b3) (min a4 b4) (min a5 b5) := by simp only [U6, U64] at *; omega
  have G1 : great (max a0 b0) (max a1 b1) (max a2 b2) (max a3 b3) (max a4 b4) (max a5 b5) a0 a1 a2 a3 a4 a5 = true := by simp only [great, decide_eq_true_eq]; omega
  have G2 : great (max a0 b0) (max a1 b1) (max a2 b2) (max a3 b3) (max a4 b4) (max a5 b5) b0 b1 b2 b3 b4 b5 = true := by simp only [great, decide_eq_true_eq]; omega
  have G3 : great a0 a1 a2 a3 a4 a5 (min a0 b0) (min a1 b1) (min a2 b2) (min a3 b3) (min a4 b4) (min a5 b5) = true := by simp only [great, decide_eq_true_eq]; omega
  have G4 : great b0 b1 b2 b3 b4 b5 (min a0 b0) (min a1 b1) (min a2 b2) (min a3 b3) (min a4 b4) (min a5 b5) = true := by simp only [great, decide_eq_true_eq]; omega
  have G5 : great c0 c1 c2 c3 c4 c5 (max a0 b0) (max a1 b1) (max a2 b2) (max a3 b3) (max a4 b4) (max a5 b5) = (great c0 c1 c2 c3 c4 c5 a0 a1 a2 a3 a4 a5 && great c0 c1 c2 c3 c4 c5 b0 b1 b2 b3 b4 b5) := by
    rw [Bool.eq_iff_iff]; simp only [great, Bool.and_eq_true, decide_eq_true_eq]; omega
  rw [hca, hcb] at G5
  simp only [Bool.and_true, Bool.true_and, Bool.and_false, Bool.false_and, Bool.and_self] at G5
  have heq := eql_vec
  have C0 : max b0 a0 = max a0 b0 := by omega
  have C1 : max b1 a1 = max a1 b1 := by omega
  have C2 : max b2 a2 = max a2 b2 := by omega
  have C3 : max b3 a3 = max a3 b3 := by omega
  have C4 : max b4 a4 = max a4 b4 := by omega
  have C5 : max b5 a5 = max a5 b5 := by omega
  go_enter Try.func3, Try.ntmps3
  go_wp2_with fail
  with_reducible first | apply gen_wp (w0 := w) | apply gen_list (w0 := w) | apply gen_calls (w0 := w)
  case hb => (repeat (with_reducible first | apply Blocks.alloc | apply Blocks.set | apply Blocks.drew | exact hB | exact Blocks.grow hB hw | exact Blocks.nil _))
  case hg => (repeat (with_reducible first | refine Grow.alloc' ?_ | (refine Grow.set' ?_ (by first | exact Nat.le_refl _ | (simp only []; omega) | (simp; done))) | refine Grow.drew' ?_ | exact hG | exact Grow.trans hG hw | exact Grow.refl _))
  (try clear hw); (try clear hR); (try clear hI); (try clear hZ); (try clear hs0); (try clear hB); (try clear hG)
  intro W hB hG
  try simp (disch := omega) only [List.map_cons, List.map_nil, List.setIfInBounds_toArray, List.set_cons_zero, List.set_cons_succ, World.size_alloc, if_pos, if_neg, if_false, if_true] at hB
  have hR := hB.rules
  simp only [RulesAt] at hR
  have hZ := hB.lts
  simp only [LtsAt] at hZ
  have hs0 := hG.size
  have hI := Grow.refl W
  refine wp_region_flow 8 (by kernel_rfl) (by kernel_rfl) (fun M hM K hK => ?_)
  simp only [List.take_succ_cons, List.take_zero]
  repeat (first
    | (refine flow_skip (fun x => rfl) ?_; simp only [Act.put, List.setIfInBounds_toArray, List.set_cons_zero, List.set_cons_succ, Nat.zero_add, Nat.reduceAdd])
    | (apply flow_const
       · (intro x wz hz _; refine ⟨rfl, ?_⟩; unfold newAt; go_simp; simp only [newUpon]; first | exact ⟨Grow.refl _, rfl⟩ | (refine ⟨Grow.refl _, ?_⟩; first | exact calls_const (Join_any _ _ _ _ _ _ _ _ _ _ _ _ _ ha hb) | exact calls_const (Meet_any _ _ _ _ _ _ _ _ _ _ _ _ _ ha hb)))
       simp only [Act.put, List.setIfInBounds_toArray, List.set_cons_zero, List.set_cons_succ, Nat.zero_add, Nat.reduceAdd])
    | (apply flow_alloc
       · (intro x wz hz _; refine ⟨rfl, ?_⟩; unfold newAt; go_simp; simp only [newUpon]; exact ⟨Grow.alloc _ _, rfl, rfl, rfl, rfl⟩)
       simp only [Act.put, List.setIfInBounds_toArray, List.set_cons_zero, List.set_cons_succ, Nat.zero_add, Nat.reduceAdd]))
  (refine flow_nil ?_; intro x w' hz hfx hap; refine hK.out _ _ ?_; clear hK hM)
  have hw := hz
  clear hz
  simp only [List.nil_append, List.cons_append, FactsOf] at hfx
  replace hap := apartOf_all _ (by simp) hap
  simp only [List.nil_append, List.cons_append, ApartOf, NewsApart] at hap
  obtain ⟨⟨f6, g6, k6⟩, ⟨f7, g7, k7⟩, -⟩ := hfx
  simp only [mask_self] at f6 g6 k6 f7 g7 k7
  simp only [f6, f7]
  clear f6 f7
  simp only [g6, g7] at hap
  clear g6 g7
  generalize (x 6).lo = b6 at *
  generalize (x 7).lo = b7 at *
  replace hB := (((hB.grow hw).add k6).add k7)
  replace hG := hG.trans hw
  clear k6 k7
  clear hw; (try clear hR); (try clear hI)
  simp only [List.drop_succ_cons, List.drop_zero]
  try simp (disch := omega) only [List.map_cons, List.map_nil, List.setIfInBounds_toArray, List.set_cons_zero, List.set_cons_succ, World.size_alloc, if_pos, if_neg, if_false, if_true] at hB
  have hR := hB.rules
  simp only [RulesAt] at hR
  have hZ := hB.lts
  simp only [LtsAt] at hZ
  have hs0 := hG.size
  have hI := Grow.refl w'
  go_wp2_with (with_reducible apply wl_store_row (i := 1))
  case hx => rfl
  case hy => rfl
  case hB => first | exact hB | exact hB.grow hw
  case hG => first | exact hG | exact hG.trans hw
  case hi => rfl
  case hsz => kernel_rfl
  case hcs => rfl
  case h1 => simp [Value.oneCell']
  case hb0 => (first | exact Nat.le_refl _ | omega)
  (try clear hw); (try clear hR); (try clear hI); (try clear hZ); (try clear hs0); (try clear hB); (try clear hG)
  intro W hB hG
  try simp (disch := omega) only [List.map_cons, List.map_nil, List.setIfInBounds_toArray, List.set_cons_zero, List.set_cons_succ, World.size_alloc, if_pos, if_neg, if_false, if_true] at hB
  have hR := hB.rules
  simp only [RulesAt] at hR
  have hZ := hB.lts
  simp only [LtsAt] at hZ
  have hs0 := hG.size
  have hI := Grow.refl W
  simp only [Act.put]
  go_wp2_with (with_reducible apply wl_store_row (i := 0))
  case hx => rfl
  case hy => rfl
  case hB => first | exact hB | exact hB.grow hw
  case hG => first | exact hG | exact hG.trans hw
  case hi => rfl
  case hsz => kernel_rfl
  case hcs => rfl
  case h1 => simp [Value.oneCell']
  case hb0 => (first | exact Nat.le_refl _ | omega)
  (try clear hw); (try clear hR); (try clear hI); (try clear hZ); (try clear hs0); (try clear hB); (try clear hG)
  intro W hB hG
  try simp (disch := omega) only [List.map_cons, List.map_nil, List.setIfInBounds_toArray, List.set_cons_zero, List.set_cons_succ, World.size_alloc, if_pos, if_neg, if_false, if_true] at hB
  have hR := hB.rules
  simp only [RulesAt] at hR
  have hZ := hB.lts
  simp only [LtsAt] at hZ
  have hs0 := hG.size
  have hI := Grow.refl W
  simp only [Act.put]
  iterate 2
    try
      go_wp2_with fail
      with_reducible first | apply gen_wp (w0 := w) | apply gen_list (w0 := w) | apply gen_calls (w0 := w)
      case hb => (repeat (with_reducible first | apply Blocks.alloc | apply Blocks.set | apply Blocks.drew | exact hB | exact Blocks.grow hB hw | exact Blocks.nil _))
      case hg => (repeat (with_reducible first | refine Grow.alloc' ?_ | (refine Grow.set' ?_ (by first | exact Nat.le_refl _ | (simp only []; omega) | (simp; done))) | refine Grow.drew' ?_ | exact hG | exact Grow.trans hG hw | exact Grow.refl _))
      (try clear hw); (try clear hR); (try clear hI); (try clear hZ); (try clear hs0); (try clear hB); (try clear hG)
      intro W hB hG
      try simp (disch := omega) only [List.map_cons, List.map_nil, List.setIfInBounds_toArray, List.set_cons_zero, List.set_cons_succ, World.size_alloc, if_pos, if_neg, if_false, if_true] at hB
      have hR := hB.rules
      simp only [RulesAt] at hR
      have hZ := hB.lts
      simp only [LtsAt] at hZ
      have hs0 := hG.size
      have hI := Grow.refl W
      refine (Great_is _ _ _ _ _ _ _ _ _ _ _ _ _ (by assumption) (by assumption) (by assumption)).mono ?_
      rintro e w' ⟨rfl, hw⟩
  go_wp2_with fail
  with_reducible first | apply gen_wp (w0 := w) | apply gen_list (w0 := w) | apply gen_calls (w0 := w)
  case hb => (repeat (with_reducible first | apply Blocks.alloc | apply Blocks.set | apply Blocks.drew | exact hB | exact Blocks.grow hB hw | exact Blocks.nil _))
  case hg => (repeat (with_reducible first | refine Grow.alloc' ?_ | (refine Grow.set' ?_ (by first | exact Nat.le_refl _ | (simp only []; omega) | (simp; done))) | refine Grow.drew' ?_ | exact hG | exact Grow.trans hG hw | exact Grow.refl _))
  (try clear hw); (try clear hR); (try clear hI); (try clear hZ); (try clear hs0); (try clear hB); (try clear hG)
  intro W hB hG
  try simp (disch := omega) only [List.map_cons, List.map_nil, List.setIfInBounds_toArray, List.set_cons_zero, List.set_cons_succ, World.size_alloc, if_pos, if_neg, if_false, if_true] at hB
  have hR := hB.rules
  simp only [RulesAt] at hR
  have hZ := hB.lts
  simp only [LtsAt] at hZ
  have hs0 := hG.size
  have hI := Grow.refl W
  refine wp_region_flow 41 (by kernel_rfl) (by kernel_rfl) (fun M hM K hK => ?_)
  simp only [List.take_succ_cons, List.take_zero]
  repeat (first
    | (refine flow_skip (fun x => rfl) ?_; simp only [Act.put, List.setIfInBounds_toArray, List.set_cons_zero, List.set_cons_succ, Nat.zero_add, Nat.reduceAdd])
    | (apply flow_const
       · (intro x wz hz _; refine ⟨rfl, ?_⟩; unfold newAt; go_simp; simp only [newUpon]; first | exact ⟨Grow.refl _, rfl⟩ | (refine ⟨Grow.refl _, ?_⟩; first | exact calls_const (awake_any _) | exact calls_const (Great_is _ _ _ _ _ _ _ _ _ _ _ _ _ (by assumption) (by assumption) (by assumption)) | exact calls_const (Join_any _ _ _ _ _ _ _ _ _ _ _ _ _ hb ha) | exact calls_const (Missing_none _ _ _ _ _ _ _ _ _ _ _ _ _ (by assumption) (by assumption) (by assumption))))
       simp only [Act.put, List.setIfInBounds_toArray, List.set_cons_zero, List.set_cons_succ, Nat.zero_add, Nat.reduceAdd]))
  (refine flow_nil ?_; intro x w' hz hfx hap; refine hK.out _ _ ?_; clear hK hM)
  have hw := hz
  clear hz
  clear hfx hap
  simp only [List.drop_succ_cons, List.drop_zero]
  go_wp2
  go_ret
  exact ⟨rfl, hG.trans hw⟩

set_option maxHeartbeats 4000000 in
theorem joins_false_true (a0 a1 a2 a3 a4 a5 b0 b1 b2 b3 b4 b5 c0 c1 c2 c3 c4 c5 : Int) (w : World) (ha : U6 a0 a1 a2 a3 a4 a5) (hb : U6 b0 b1 b2 b3 b4 b5) (hc : U6 c0 c1 c2 c3 c4 c5) (hca : great c0 c1 c2 c3 c4 c5 a0 a1 a2 a3 a4 a5 = false) (hcb : great c0 c1 c2 c3 c4 c5 b0 b1 b2 b3 b4 b5 = true) :
    Calls Try.prog 3 #[.agg #[.int .u64 a0, .int .u64 a1, .int .u64 a2, .int .u64 a3, .int .u64 a4, .int .u64 a5], .agg #[.int .u64 b0, .int .u64 b1, .int .u64 b2, .int .u64 b3, .int .u64 b4, .int .u64 b5], .agg #[.int .u64 c0, .int .u64 c1, .int .u64 c2, .int .u64 c3, .int .u64 c4, .int .u64 c5]] w fun e w' => e = .returned (.bool true) ∧ Below w.heap.size w w' := by
  have hj : U6 (max a0 b0) (max a1 b1) (max a2 b2) (max a3 b3) (max a4 b4) (max a5 b5) := by simp only [U6, U64] at *; omega
  have hm : U6 (min a0 b0) (min a1 b1) (min a2 b2) (min a3 b3) (min a4 b4) (min a5 b5) := by simp only [U6, U64] at *; omega
  have G1 : great (max a0 b0) (max a1 b1) (max a2 b2) (max a3 b3) (max a4 b4) (max a5 b5) a0 a1 a2 a3 a4 a5 = true := by simp only [great, decide_eq_true_eq]; omega
  have G2 : great (max a0 b0) (max a1 b1) (max a2 b2) (max a3 b3) (max a4 b4) (max a5 b5) b0 b1 b2 b3 b4 b5 = true := by simp only [great, decide_eq_true_eq]; omega
  have G3 : great a0 a1 a2 a3 a4 a5 (min a0 b0) (min a1 b1) (min a2 b2) (min a3 b3) (min a4 b4) (min a5 b5) = true := by simp only [great, decide_eq_true_eq]; omega
  have G4 : great b0 b1 b2 b3 b4 b5 (min a0 b0) (min a1 b1) (min a2 b2) (min a3 b3) (min a4 b4) (min a5 b5) = true := by simp only [great, decide_eq_true_eq]; omega
  have G5 : great c0 c1 c2 c3 c4 c5 (max a0 b0) (max a1 b1) (max a2 b2) (max a3 b3) (max a4 b4) (max a5 b5) = (great c0 c1 c2 c3 c4 c5 a0 a1 a2 a3 a4 a5 && great c0 c1 c2 c3 c4 c5 b0 b1 b2 b3 b4 b5) := by
    rw [Bool.eq_iff_iff]; simp only [great, Bool.and_eq_true, decide_eq_true_eq]; omega
  rw [hca, hcb] at G5
  simp only [Bool.and_true, Bool.true_and, Bool.and_false, Bool.false_and, Bool.and_self] at G5
  have heq := eql_vec
  have C0 : max b0 a0 = max a0 b0 := by omega
  have C1 : max b1 a1 = max a1 b1 := by omega
  have C2 : max b2 a2 = max a2 b2 := by omega
  have C3 : max b3 a3 = max a3 b3 := by omega
  have C4 : max b4 a4 = max a4 b4 := by omega
  have C5 : max b5 a5 = max a5 b5 := by omega
  go_enter Try.func3, Try.ntmps3
  go_wp2_with fail
  with_reducible first | apply gen_wp (w0 := w) | apply gen_list (w0 := w) | apply gen_calls (w0 := w)
  case hb => (repeat (with_reducible first | apply Blocks.alloc | apply Blocks.set | apply Blocks.drew | exact hB | exact Blocks.grow hB hw | exact Blocks.nil _))
  case hg => (repeat (with_reducible first | refine Grow.alloc' ?_ | (refine Grow.set' ?_ (by first | exact Nat.le_refl _ | (simp only []; omega) | (simp; done))) | refine Grow.drew' ?_ | exact hG | exact Grow.trans hG hw | exact Grow.refl _))
  (try clear hw); (try clear hR); (try clear hI); (try clear hZ); (try clear hs0); (try clear hB); (try clear hG)
  intro W hB hG
  try simp (disch := omega) only [List.map_cons, List.map_nil, List.setIfInBounds_toArray, List.set_cons_zero, List.set_cons_succ, World.size_alloc, if_pos, if_neg, if_false, if_true] at hB
  have hR := hB.rules
  simp only [RulesAt] at hR
  have hZ := hB.lts
  simp only [LtsAt] at hZ
  have hs0 := hG.size
  have hI := Grow.refl W
  refine wp_region_flow 8 (by kernel_rfl) (by kernel_rfl) (fun M hM K hK => ?_)
  simp only [List.take_succ_cons, List.take_zero]
  repeat (first
    | (refine flow_skip (fun x => rfl) ?_; simp only [Act.put, List.setIfInBounds_toArray, List.set_cons_zero, List.set_cons_succ, Nat.zero_add, Nat.reduceAdd])
    | (apply flow_const
       · (intro x wz hz _; refine ⟨rfl, ?_⟩; unfold newAt; go_simp; simp only [newUpon]; first | exact ⟨Grow.refl _, rfl⟩ | (refine ⟨Grow.refl _, ?_⟩; first | exact calls_const (Join_any _ _ _ _ _ _ _ _ _ _ _ _ _ ha hb) | exact calls_const (Meet_any _ _ _ _ _ _ _ _ _ _ _ _ _ ha hb)))
       simp only [Act.put, List.setIfInBounds_toArray, List.set_cons_zero, List.set_cons_succ, Nat.zero_add, Nat.reduceAdd])
    | (apply flow_alloc
       · (intro x wz hz _; refine ⟨rfl, ?_⟩; unfold newAt; go_simp; simp only [newUpon]; exact ⟨Grow.alloc _ _, rfl, rfl, rfl, rfl⟩)
       simp only [Act.put, List.setIfInBounds_toArray, List.set_cons_zero, List.set_cons_succ, Nat.zero_add, Nat.reduceAdd]))
  (refine flow_nil ?_; intro x w' hz hfx hap; refine hK.out _ _ ?_; clear hK hM)
  have hw := hz
  clear hz
  simp only [List.nil_append, List.cons_append, FactsOf] at hfx
  replace hap := apartOf_all _ (by simp) hap
  simp only [List.nil_append, List.cons_append, ApartOf, NewsApart] at hap
  obtain ⟨⟨f6, g6, k6⟩, ⟨f7, g7, k7⟩, -⟩ := hfx
  simp only [mask_self] at f6 g6 k6 f7 g7 k7
  simp only [f6, f7]
  clear f6 f7
  simp only [g6, g7] at hap
  clear g6 g7
  generalize (x 6).lo = b6 at *
  generalize (x 7).lo = b7 at *
  replace hB := (((hB.grow hw).add k6).add k7)
  replace hG := hG.trans hw
  clear k6 k7
  clear hw; (try clear hR); (try clear hI)
  simp only [List.drop_succ_cons, List.drop_zero]
  try simp (disch := omega) only [List.map_cons, List.map_nil, List.setIfInBounds_toArray, List.set_cons_zero, List.set_cons_succ, World.size_alloc, if_pos, if_neg, if_false, if_true] at hB
  have hR := hB.rules
  simp only [RulesAt] at hR
  have hZ := hB.lts
  simp only [LtsAt] at hZ
  have hs0 := hG.size
  have hI := Grow.refl w'
  go_wp2_with (with_reducible apply wl_store_row (i := 1))
  case hx => rfl
  case hy => rfl
  case hB => first | exact hB | exact hB.grow hw
  case hG => first | exact hG | exact hG.trans hw
  case hi => rfl
  case hsz => kernel_rfl
  case hcs => rfl
  case h1 => simp [Value.oneCell']
  case hb0 => (first | exact Nat.le_refl _ | omega)
  (try clear hw); (try clear hR); (try clear hI); (try clear hZ); (try clear hs0); (try clear hB); (try clear hG)
  intro W hB hG
  try simp (disch := omega) only [List.map_cons, List.map_nil, List.setIfInBounds_toArray, List.set_cons_zero, List.set_cons_succ, World.size_alloc, if_pos, if_neg, if_false, if_true] at hB
  have hR := hB.rules
  simp only [RulesAt] at hR
  have hZ := hB.lts
  simp only [LtsAt] at hZ
  have hs0 := hG.size
  have hI := Grow.refl W
  simp only [Act.put]
  go_wp2_with (with_reducible apply wl_store_row (i := 0))
  case hx => rfl
  case hy => rfl
  case hB => first | exact hB | exact hB.grow hw
  case hG => first | exact hG | exact hG.trans hw
  case hi => rfl
  case hsz => kernel_rfl
  case hcs => rfl
  case h1 => simp [Value.oneCell']
  case hb0 => (first | exact Nat.le_refl _ | omega)
  (try clear hw); (try clear hR); (try clear hI); (try clear hZ); (try clear hs0); (try clear hB); (try clear hG)
  intro W hB hG
  try simp (disch := omega) only [List.map_cons, List.map_nil, List.setIfInBounds_toArray, List.set_cons_zero, List.set_cons_succ, World.size_alloc, if_pos, if_neg, if_false, if_true] at hB
  have hR := hB.rules
  simp only [RulesAt] at hR
  have hZ := hB.lts
  simp only [LtsAt] at hZ
  have hs0 := hG.size
  have hI := Grow.refl W
  simp only [Act.put]
  iterate 2
    try
      go_wp2_with fail
      with_reducible first | apply gen_wp (w0 := w) | apply gen_list (w0 := w) | apply gen_calls (w0 := w)
      case hb => (repeat (with_reducible first | apply Blocks.alloc | apply Blocks.set | apply Blocks.drew | exact hB | exact Blocks.grow hB hw | exact Blocks.nil _))
      case hg => (repeat (with_reducible first | refine Grow.alloc' ?_ | (refine Grow.set' ?_ (by first | exact Nat.le_refl _ | (simp only []; omega) | (simp; done))) | refine Grow.drew' ?_ | exact hG | exact Grow.trans hG hw | exact Grow.refl _))
      (try clear hw); (try clear hR); (try clear hI); (try clear hZ); (try clear hs0); (try clear hB); (try clear hG)
      intro W hB hG
      try simp (disch := omega) only [List.map_cons, List.map_nil, List.setIfInBounds_toArray, List.set_cons_zero, List.set_cons_succ, World.size_alloc, if_pos, if_neg, if_false, if_true] at hB
      have hR := hB.rules
      simp only [RulesAt] at hR
      have hZ := hB.lts
      simp only [LtsAt] at hZ
      have hs0 := hG.size
      have hI := Grow.refl W
      refine (Great_is _ _ _ _ _ _ _ _ _ _ _ _ _ (by assumption) (by assumption) (by assumption)).mono ?_
      rintro e w' ⟨rfl, hw⟩
  go_wp2_with fail
  with_reducible first | apply gen_wp (w0 := w) | apply gen_list (w0 := w) | apply gen_calls (w0 := w)
  case hb => (repeat (with_reducible first | apply Blocks.alloc | apply Blocks.set | apply Blocks.drew | exact hB | exact Blocks.grow hB hw | exact Blocks.nil _))
  case hg => (repeat (with_reducible first | refine Grow.alloc' ?_ | (refine Grow.set' ?_ (by first | exact Nat.le_refl _ | (simp only []; omega) | (simp; done))) | refine Grow.drew' ?_ | exact hG | exact Grow.trans hG hw | exact Grow.refl _))
  (try clear hw); (try clear hR); (try clear hI); (try clear hZ); (try clear hs0); (try clear hB); (try clear hG)
  intro W hB hG
  try simp (disch := omega) only [List.map_cons, List.map_nil, List.setIfInBounds_toArray, List.set_cons_zero, List.set_cons_succ, World.size_alloc, if_pos, if_neg, if_false, if_true] at hB
  have hR := hB.rules
  simp only [RulesAt] at hR
  have hZ := hB.lts
  simp only [LtsAt] at hZ
  have hs0 := hG.size
  have hI := Grow.refl W
  refine wp_region_flow 41 (by kernel_rfl) (by kernel_rfl) (fun M hM K hK => ?_)
  simp only [List.take_succ_cons, List.take_zero]
  repeat (first
    | (refine flow_skip (fun x => rfl) ?_; simp only [Act.put, List.setIfInBounds_toArray, List.set_cons_zero, List.set_cons_succ, Nat.zero_add, Nat.reduceAdd])
    | (apply flow_const
       · (intro x wz hz _; refine ⟨rfl, ?_⟩; unfold newAt; go_simp; simp only [newUpon]; first | exact ⟨Grow.refl _, rfl⟩ | (refine ⟨Grow.refl _, ?_⟩; first | exact calls_const (awake_any _) | exact calls_const (Great_is _ _ _ _ _ _ _ _ _ _ _ _ _ (by assumption) (by assumption) (by assumption)) | exact calls_const (Join_any _ _ _ _ _ _ _ _ _ _ _ _ _ hb ha) | exact calls_const (Missing_none _ _ _ _ _ _ _ _ _ _ _ _ _ (by assumption) (by assumption) (by assumption))))
       simp only [Act.put, List.setIfInBounds_toArray, List.set_cons_zero, List.set_cons_succ, Nat.zero_add, Nat.reduceAdd]))
  (refine flow_nil ?_; intro x w' hz hfx hap; refine hK.out _ _ ?_; clear hK hM)
  have hw := hz
  clear hz
  clear hfx hap
  simp only [List.drop_succ_cons, List.drop_zero]
  go_wp2
  go_ret
  exact ⟨rfl, hG.trans hw⟩

set_option maxHeartbeats 4000000 in
theorem joins_false_false (a0 a1 a2 a3 a4 a5 b0 b1 b2 b3 b4 b5 c0 c1 c2 c3 c4 c5 : Int) (w : World) (ha : U6 a0 a1 a2 a3 a4 a5) (hb : U6 b0 b1 b2 b3 b4 b5) (hc : U6 c0 c1 c2 c3 c4 c5) (hca : great c0 c1 c2 c3 c4 c5 a0 a1 a2 a3 a4 a5 = false) (hcb : great c0 c1 c2 c3 c4 c5 b0 b1 b2 b3 b4 b5 = false) :
    Calls Try.prog 3 #[.agg #[.int .u64 a0, .int .u64 a1, .int .u64 a2, .int .u64 a3, .int .u64 a4, .int .u64 a5], .agg #[.int .u64 b0, .int .u64 b1, .int .u64 b2, .int .u64 b3, .int .u64 b4, .int .u64 b5], .agg #[.int .u64 c0, .int .u64 c1, .int .u64 c2, .int .u64 c3, .int .u64 c4, .int .u64 c5]] w fun e w' => e = .returned (.bool true) ∧ Below w.heap.size w w' := by
  have hj : U6 (max a0 b0) (max a1 b1) (max a2 b2) (max a3 b3) (max a4 b4) (max a5 b5) := by simp only [U6, U64] at *; omega
  have hm : U6 (min a0 b0) (min a1 b1) (min a2 b2) (min a3 b3) (min a4 b4) (min a5 b5) := by simp only [U6, U64] at *; omega
  have G1 : great (max a0 b0) (max a1 b1) (max a2 b2) (max a3 b3) (max a4 b4) (max a5 b5) a0 a1 a2 a3 a4 a5 = true := by simp only [great, decide_eq_true_eq]; omega
  have G2 : great (max a0 b0) (max a1 b1) (max a2 b2) (max a3 b3) (max a4 b4) (max a5 b5) b0 b1 b2 b3 b4 b5 = true := by simp only [great, decide_eq_true_eq]; omega
  have G3 : great a0 a1 a2 a3 a4 a5 (min a0 b0) (min a1 b1) (min a2 b2) (min a3 b3) (min a4 b4) (min a5 b5) = true := by simp only [great, decide_eq_true_eq]; omega
  have G4 : great b0 b1 b2 b3 b4 b5 (min a0 b0) (min a1 b1) (min a2 b2) (min a3 b3) (min a4 b4) (min a5 b5) = true := by simp only [great, decide_eq_true_eq]; omega
  have G5 : great c0 c1 c2 c3 c4 c5 (max a0 b0) (max a1 b1) (max a2 b2) (max a3 b3) (max a4 b4) (max a5 b5) = (great c0 c1 c2 c3 c4 c5 a0 a1 a2 a3 a4 a5 && great c0 c1 c2 c3 c4 c5 b0 b1 b2 b3 b4 b5) := by
    rw [Bool.eq_iff_iff]; simp only [great, Bool.and_eq_true, decide_eq_true_eq]; omega
  rw [hca, hcb] at G5
  simp only [Bool.and_true, Bool.true_and, Bool.and_false, Bool.false_and, Bool.and_self] at G5
  have heq := eql_vec
  have C0 : max b0 a0 = max a0 b0 := by omega
  have C1 : max b1 a1 = max a1 b1 := by omega
  have C2 : max b2 a2 = max a2 b2 := by omega
  have C3 : max b3 a3 = max a3 b3 := by omega
  have C4 : max b4 a4 = max a4 b4 := by omega
  have C5 : max b5 a5 = max a5 b5 := by omega
  go_enter Try.func3, Try.ntmps3
  go_wp2_with fail
  with_reducible first | apply gen_wp (w0 := w) | apply gen_list (w0 := w) | apply gen_calls (w0 := w)
  case hb => (repeat (with_reducible first | apply Blocks.alloc | apply Blocks.set | apply Blocks.drew | exact hB | exact Blocks.grow hB hw | exact Blocks.nil _))
  case hg => (repeat (with_reducible first | refine Grow.alloc' ?_ | (refine Grow.set' ?_ (by first | exact Nat.le_refl _ | (simp only []; omega) | (simp; done))) | refine Grow.drew' ?_ | exact hG | exact Grow.trans hG hw | exact Grow.refl _))
  (try clear hw); (try clear hR); (try clear hI); (try clear hZ); (try clear hs0); (try clear hB); (try clear hG)
  intro W hB hG
  try simp (disch := omega) only [List.map_cons, List.map_nil, List.setIfInBounds_toArray, List.set_cons_zero, List.set_cons_succ, World.size_alloc, if_pos, if_neg, if_false, if_true] at hB
  have hR := hB.rules
  simp only [RulesAt] at hR
  have hZ := hB.lts
  simp only [LtsAt] at hZ
  have hs0 := hG.size
  have hI := Grow.refl W
  refine wp_region_flow 8 (by kernel_rfl) (by kernel_rfl) (fun M hM K hK => ?_)
  simp only [List.take_succ_cons, List.take_zero]
  repeat (first
    | (refine flow_skip (fun x => rfl) ?_; simp only [Act.put, List.setIfInBounds_toArray, List.set_cons_zero, List.set_cons_succ, Nat.zero_add, Nat.reduceAdd])
    | (apply flow_const
       · (intro x wz hz _; refine ⟨rfl, ?_⟩; unfold newAt; go_simp; simp only [newUpon]; first | exact ⟨Grow.refl _, rfl⟩ | (refine ⟨Grow.refl _, ?_⟩; first | exact calls_const (Join_any _ _ _ _ _ _ _ _ _ _ _ _ _ ha hb) | exact calls_const (Meet_any _ _ _ _ _ _ _ _ _ _ _ _ _ ha hb)))
       simp only [Act.put, List.setIfInBounds_toArray, List.set_cons_zero, List.set_cons_succ, Nat.zero_add, Nat.reduceAdd])
    | (apply flow_alloc
       · (intro x wz hz _; refine ⟨rfl, ?_⟩; unfold newAt; go_simp; simp only [newUpon]; exact ⟨Grow.alloc _ _, rfl, rfl, rfl, rfl⟩)
       simp only [Act.put, List.setIfInBounds_toArray, List.set_cons_zero, List.set_cons_succ, Nat.zero_add, Nat.reduceAdd]))
  (refine flow_nil ?_; intro x w' hz hfx hap; refine hK.out _ _ ?_; clear hK hM)
  have hw := hz
  clear hz
  simp only [List.nil_append, List.cons_append, FactsOf] at hfx
  replace hap := apartOf_all _ (by simp) hap
  simp only [List.nil_append, List.cons_append, ApartOf, NewsApart] at hap
  obtain ⟨⟨f6, g6, k6⟩, ⟨f7, g7, k7⟩, -⟩ := hfx
  simp only [mask_self] at f6 g6 k6 f7 g7 k7
  simp only [f6, f7]
  clear f6 f7
  simp only [g6, g7] at hap
  clear g6 g7
  generalize (x 6).lo = b6 at *
  generalize (x 7).lo = b7 at *
  replace hB := (((hB.grow hw).add k6).add k7)
  replace hG := hG.trans hw
  clear k6 k7
  clear hw; (try clear hR); (try clear hI)
  simp only [List.drop_succ_cons, List.drop_zero]
  try simp (disch := omega) only [List.map_cons, List.map_nil, List.setIfInBounds_toArray, List.set_cons_zero, List.set_cons_succ, World.size_alloc, if_pos, if_neg, if_false, if_true] at hB
  have hR := hB.rules
  simp only [RulesAt] at hR
  have hZ := hB.lts
  simp only [LtsAt] at hZ
  have hs0 := hG.size
  have hI := Grow.refl w'
  go_wp2_with (with_reducible apply wl_store_row (i := 1))
  case hx => rfl
  case hy => rfl
  case hB => first | exact hB | exact hB.grow hw
  case hG => first | exact hG | exact hG.trans hw
  case hi => rfl
  case hsz => kernel_rfl
  case hcs => rfl
  case h1 => simp [Value.oneCell']
  case hb0 => (first | exact Nat.le_refl _ | omega)
  (try clear hw); (try clear hR); (try clear hI); (try clear hZ); (try clear hs0); (try clear hB); (try clear hG)
  intro W hB hG
  try simp (disch := omega) only [List.map_cons, List.map_nil, List.setIfInBounds_toArray, List.set_cons_zero, List.set_cons_succ, World.size_alloc, if_pos, if_neg, if_false, if_true] at hB
  have hR := hB.rules
  simp only [RulesAt] at hR
  have hZ := hB.lts
  simp only [LtsAt] at hZ
  have hs0 := hG.size
  have hI := Grow.refl W
  simp only [Act.put]
  go_wp2_with (with_reducible apply wl_store_row (i := 0))
  case hx => rfl
  case hy => rfl
  case hB => first | exact hB | exact hB.grow hw
  case hG => first | exact hG | exact hG.trans hw
  case hi => rfl
  case hsz => kernel_rfl
  case hcs => rfl
  case h1 => simp [Value.oneCell']
  case hb0 => (first | exact Nat.le_refl _ | omega)
  (try clear hw); (try clear hR); (try clear hI); (try clear hZ); (try clear hs0); (try clear hB); (try clear hG)
  intro W hB hG
  try simp (disch := omega) only [List.map_cons, List.map_nil, List.setIfInBounds_toArray, List.set_cons_zero, List.set_cons_succ, World.size_alloc, if_pos, if_neg, if_false, if_true] at hB
  have hR := hB.rules
  simp only [RulesAt] at hR
  have hZ := hB.lts
  simp only [LtsAt] at hZ
  have hs0 := hG.size
  have hI := Grow.refl W
  simp only [Act.put]
  iterate 2
    try
      go_wp2_with fail
      with_reducible first | apply gen_wp (w0 := w) | apply gen_list (w0 := w) | apply gen_calls (w0 := w)
      case hb => (repeat (with_reducible first | apply Blocks.alloc | apply Blocks.set | apply Blocks.drew | exact hB | exact Blocks.grow hB hw | exact Blocks.nil _))
      case hg => (repeat (with_reducible first | refine Grow.alloc' ?_ | (refine Grow.set' ?_ (by first | exact Nat.le_refl _ | (simp only []; omega) | (simp; done))) | refine Grow.drew' ?_ | exact hG | exact Grow.trans hG hw | exact Grow.refl _))
      (try clear hw); (try clear hR); (try clear hI); (try clear hZ); (try clear hs0); (try clear hB); (try clear hG)
      intro W hB hG
      try simp (disch := omega) only [List.map_cons, List.map_nil, List.setIfInBounds_toArray, List.set_cons_zero, List.set_cons_succ, World.size_alloc, if_pos, if_neg, if_false, if_true] at hB
      have hR := hB.rules
      simp only [RulesAt] at hR
      have hZ := hB.lts
      simp only [LtsAt] at hZ
      have hs0 := hG.size
      have hI := Grow.refl W
      refine (Great_is _ _ _ _ _ _ _ _ _ _ _ _ _ (by assumption) (by assumption) (by assumption)).mono ?_
      rintro e w' ⟨rfl, hw⟩
  go_wp2_with fail
  with_reducible first | apply gen_wp (w0 := w) | apply gen_list (w0 := w) | apply gen_calls (w0 := w)
  case hb => (repeat (with_reducible first | apply Blocks.alloc | apply Blocks.set | apply Blocks.drew | exact hB | exact Blocks.grow hB hw | exact Blocks.nil _))
  case hg => (repeat (with_reducible first | refine Grow.alloc' ?_ | (refine Grow.set' ?_ (by first | exact Nat.le_refl _ | (simp only []; omega) | (simp; done))) | refine Grow.drew' ?_ | exact hG | exact Grow.trans hG hw | exact Grow.refl _))
  (try clear hw); (try clear hR); (try clear hI); (try clear hZ); (try clear hs0); (try clear hB); (try clear hG)
  intro W hB hG
  try simp (disch := omega) only [List.map_cons, List.map_nil, List.setIfInBounds_toArray, List.set_cons_zero, List.set_cons_succ, World.size_alloc, if_pos, if_neg, if_false, if_true] at hB
  have hR := hB.rules
  simp only [RulesAt] at hR
  have hZ := hB.lts
  simp only [LtsAt] at hZ
  have hs0 := hG.size
  have hI := Grow.refl W
  refine wp_region_flow 41 (by kernel_rfl) (by kernel_rfl) (fun M hM K hK => ?_)
  simp only [List.take_succ_cons, List.take_zero]
  repeat (first
    | (refine flow_skip (fun x => rfl) ?_; simp only [Act.put, List.setIfInBounds_toArray, List.set_cons_zero, List.set_cons_succ, Nat.zero_add, Nat.reduceAdd])
    | (apply flow_const
       · (intro x wz hz _; refine ⟨rfl, ?_⟩; unfold newAt; go_simp; simp only [newUpon]; first | exact ⟨Grow.refl _, rfl⟩ | (refine ⟨Grow.refl _, ?_⟩; first | exact calls_const (awake_any _) | exact calls_const (Great_is _ _ _ _ _ _ _ _ _ _ _ _ _ (by assumption) (by assumption) (by assumption)) | exact calls_const (Join_any _ _ _ _ _ _ _ _ _ _ _ _ _ hb ha) | exact calls_const (Missing_none _ _ _ _ _ _ _ _ _ _ _ _ _ (by assumption) (by assumption) (by assumption))))
       simp only [Act.put, List.setIfInBounds_toArray, List.set_cons_zero, List.set_cons_succ, Nat.zero_add, Nat.reduceAdd]))
  (refine flow_nil ?_; intro x w' hz hfx hap; refine hK.out _ _ ?_; clear hK hM)
  have hw := hz
  clear hz
  clear hfx hap
  simp only [List.drop_succ_cons, List.drop_zero]
  go_wp2
  go_ret
  exact ⟨rfl, hG.trans hw⟩

theorem joins_any (a0 a1 a2 a3 a4 a5 b0 b1 b2 b3 b4 b5 c0 c1 c2 c3 c4 c5 : Int) (w : World) (ha : U6 a0 a1 a2 a3 a4 a5) (hb : U6 b0 b1 b2 b3 b4 b5) (hc : U6 c0 c1 c2 c3 c4 c5) :
    Calls Try.prog 3 #[.agg #[.int .u64 a0, .int .u64 a1, .int .u64 a2, .int .u64 a3, .int .u64 a4, .int .u64 a5], .agg #[.int .u64 b0, .int .u64 b1, .int .u64 b2, .int .u64 b3, .int .u64 b4, .int .u64 b5], .agg #[.int .u64 c0, .int .u64 c1, .int .u64 c2, .int .u64 c3, .int .u64 c4, .int .u64 c5]] w fun e w' => e = .returned (.bool true) ∧ Below w.heap.size w w' := by
  cases hca : great c0 c1 c2 c3 c4 c5 a0 a1 a2 a3 a4 a5 <;> cases hcb : great c0 c1 c2 c3 c4 c5 b0 b1 b2 b3 b4 b5
  · exact joins_false_false _ _ _ _ _ _ _ _ _ _ _ _ _ _ _ _ _ _ w ha hb hc hca hcb
  · exact joins_false_true _ _ _ _ _ _ _ _ _ _ _ _ _ _ _ _ _ _ w ha hb hc hca hcb
  · exact joins_true_false _ _ _ _ _ _ _ _ _ _ _ _ _ _ _ _ _ _ w ha hb hc hca hcb
  · exact joins_true_true _ _ _ _ _ _ _ _ _ _ _ _ _ _ _ _ _ _ w ha hb hc hca hcb
end Go.Proofs.Ytnlejejjeilpoaa
