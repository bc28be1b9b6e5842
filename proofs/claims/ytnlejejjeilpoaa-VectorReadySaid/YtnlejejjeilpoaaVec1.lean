/- Layer 14, the small functions of vectors: what each answers, and that only new memory comes. -/
import Derived.Test.YtnlejejjeilpoaaRows
import Derived.Test.YtnlejejjeilpoaaFlow
import Derived.Test.YtnlejejjeilpoaaEq
import Derived.WalkKit
import Derived.Lib.Hide
import Derived.WalkSpells
import Derived.WalkLawsBesides
set_option linter.unusedSimpArgs false
set_option linter.unusedVariables false
set_option linter.constructorNameAsVariable false
namespace Go.Proofs.Ytnlejejjeilpoaa
open Go.RowKit Go.Flow

/-- What each makes of two numbers. -/
def ByNum (f : FuncId) (g : Int → Int → Int) : Prop := ∀ (x y : Int) (w : World), 0 ≤ x → x < 18446744073709551616 → 0 ≤ y → y < 18446744073709551616 →
  Calls Try.prog f #[.int .u64 x, .int .u64 y] w fun e w' => e = .returned (.int .u64 (g x y)) ∧ w' = w

/-- A number of 64 bits. -/
def U64 (x : Int) : Prop := 0 ≤ x ∧ x < 18446744073709551616

def U6 (x0 x1 x2 x3 x4 x5 : Int) : Prop := U64 x0 ∧ U64 x1 ∧ U64 x2 ∧ U64 x3 ∧ U64 x4 ∧ U64 x5

set_option maxHeartbeats 1000000 in
theorem each_any (f : FuncId) (g : Int → Int → Int) (a0 a1 a2 a3 a4 a5 b0 b1 b2 b3 b4 b5 : Int) (w : World) (hg : ByNum f g) (ha : U6 a0 a1 a2 a3 a4 a5) (hb : U6 b0 b1 b2 b3 b4 b5)
    (hcf : ∀ (args : Array Value) (w : World), Sem.run Try.prog (callFunc f args) w = .ok (.enter f args) w) :
    Calls Try.prog 20 #[.agg #[.int .u64 a0, .int .u64 a1, .int .u64 a2, .int .u64 a3, .int .u64 a4, .int .u64 a5], .agg #[.int .u64 b0, .int .u64 b1, .int .u64 b2, .int .u64 b3, .int .u64 b4, .int .u64 b5], .func (.func f) #[] #[]] w fun e w' =>
      e = .returned (.agg #[.int .u64 (g a0 b0), .int .u64 (g a1 b1), .int .u64 (g a2 b2), .int .u64 (g a3 b3), .int .u64 (g a4 b4), .int .u64 (g a5 b5)]) ∧ Below w.heap.size w w' := by
  go_enter Try.func20, Try.ntmps20
  go_wp2
  with_reducible first | apply gen_wp (w0 := w) | apply gen_list (w0 := w) | apply gen_calls (w0 := w)
  case hb => (repeat (with_reducible first | apply Blocks.alloc | apply Blocks.set | apply Blocks.drew | exact hB | exact Blocks.grow hB hw | exact Blocks.nil _))
  case hg => (repeat (with_reducible first | refine Grow.alloc' ?_ | (refine Grow.set' ?_ (by first | exact Nat.le_refl _ | (simp only []; omega) | (simp; done))) | refine Grow.drew' ?_ | exact hG | exact Grow.trans hG hw | exact Grow.refl _))
  (try clear hw); (try clear hR); (try clear hI); (try clear hZ); (try clear hs0); (try clear hB); (try clear hG)
  intro W hB hG
  try simp (disch := omega) only [List.map_cons, List.map_nil, List.setIfInBounds_toArray, List.set_cons_zero, List.set_cons_succ, World.size_alloc, if_pos, if_neg, if_false, if_true] at hB
  have hR := hB.rules
  simp only [RulesAt] at hR
  have hZ := hB.lts
  simp only [LtsAt] at hZ
  have hs0 := hG.size
  have hI := Grow.refl W
  refine wp_loop_rounds 7 ?_
  rw [rounds_succ]
  iterate 6
    go_wp2_with fail
    refine wp_region_flow 9 (by kernel_rfl) (by kernel_rfl) (fun M hM K hK => ?_)
    simp only [List.take_succ_cons, List.take_zero]
    repeat (first
      | (refine flow_skip (fun x => rfl) ?_; simp only [Act.put, List.setIfInBounds_toArray, List.set_cons_zero, List.set_cons_succ, Nat.zero_add, Nat.reduceAdd])
      | (apply flow_const
         · (intro x wz hz _; refine ⟨rfl, ?_⟩; unfold newAt; go_simp; simp only [newUpon]; first | exact ⟨Grow.refl _, rfl⟩ | (refine ⟨Grow.refl _, ?_⟩; first | exact calls_const_same (hg _ _ _ (by simp only [U6, U64] at ha; omega) (by simp only [U6, U64] at ha; omega) (by simp only [U6, U64] at hb; omega) (by simp only [U6, U64] at hb; omega))))
         simp only [Act.put, List.setIfInBounds_toArray, List.set_cons_zero, List.set_cons_succ, Nat.zero_add, Nat.reduceAdd]))
    (refine flow_nil ?_; intro x w' hz hfx hap; refine hK.out _ _ ?_; clear hK hM)
    have hw := hz
    clear hz
    clear hfx hap
    simp only [List.drop_succ_cons, List.drop_zero]
    go_wp2_with fail
    rw [rounds_succ]
    with_reducible first | apply gen_wp (w0 := w) | apply gen_list (w0 := w) | apply gen_calls (w0 := w)
    case hb => (repeat (with_reducible first | apply Blocks.alloc | apply Blocks.set | apply Blocks.drew | exact hB | exact Blocks.grow hB hw | exact Blocks.nil _))
    case hg => (repeat (with_reducible first | refine Grow.alloc' ?_ | (refine Grow.set' ?_ (by first | exact Nat.le_refl _ | (simp only []; omega) | (simp; done))) | refine Grow.drew' ?_ | exact hG | exact Grow.trans hG hw | exact Grow.refl _))
    (try clear hw); (try clear hR); (try clear hI); (try clear hZ); (try clear hs0); (try clear hB); (try clear hG)
    intro W hB hG
    try simp (disch := omega) only [List.map_cons, List.map_nil, List.setIfInBounds_toArray, List.set_cons_zero, List.set_cons_succ, World.size_alloc, if_pos, if_neg, if_false, if_true] at hB
    have hR := hB.rules
    simp only [RulesAt] at hR
    have hZ := hB.lts
    simp only [LtsAt] at hZ
    have hs0 := hG.size
    have hI := Grow.refl W
  go_wp2_with (with_reducible apply wl_store_row (i := 0))
  case hx => rfl
  case hy => rfl
  case hB => first | exact hB | exact hB.grow hw
  case hG => first | exact hG | exact hG.trans hw
  case hi => rfl
  case hsz => kernel_rfl
  case hcs => rfl
  case h1 => simp [Value.oneCell']
  case hb0 => (first | exact Nat.le_refl _ | omega)
  (try clear hw); (try clear hR); (try clear hI); (try clear hZ); (try clear hs0); (try clear hB); (try clear hG)
  intro W hB hG
  try simp (disch := omega) only [List.map_cons, List.map_nil, List.setIfInBounds_toArray, List.set_cons_zero, List.set_cons_succ, World.size_alloc, if_pos, if_neg, if_false, if_true] at hB
  have hR := hB.rules
  simp only [RulesAt] at hR
  have hZ := hB.lts
  simp only [LtsAt] at hZ
  have hs0 := hG.size
  have hI := Grow.refl W
  simp only [Act.put]
  go_wp2
  refine bodyPost_ret (v := .agg #[.int .u64 (g a0 b0), .int .u64 (g a1 b1), .int .u64 (g a2 b2), .int .u64 (g a3 b3), .int .u64 (g a4 b4), .int .u64 (g a5 b5)]) ?_ rfl ⟨rfl, hG⟩
  simp [results, Try.results20, go_sem, hR, hI]

theorem greater_any : ByNum 21 (fun x y => max x y) := by
  intro x y w _ _ _ _
  go_enter Try.func21, Try.ntmps21
  go_wp2
  all_goals
    go_ret
    exact ⟨by simp; omega, rfl⟩

theorem lesser_any : ByNum 22 (fun x y => min x y) := by
  intro x y w _ _ _ _
  go_enter Try.func22, Try.ntmps22
  go_wp2
  all_goals
    go_ret
    exact ⟨by simp; omega, rfl⟩

def moreOf (x y : Int) : Int := if x < y then min (y - x) 1099511627776 else 0

theorem more_any : ByNum 23 moreOf := by
  intro x y w _ _ _ _
  go_enter Try.func23, Try.ntmps23
  go_wp2
  all_goals
    go_ret
    exact ⟨by simp [moreOf]; omega, rfl⟩

theorem Join_any (a0 a1 a2 a3 a4 a5 b0 b1 b2 b3 b4 b5 : Int) (w : World) (ha : U6 a0 a1 a2 a3 a4 a5) (hb : U6 b0 b1 b2 b3 b4 b5) :
    Calls Try.prog 8 #[.agg #[.int .u64 a0, .int .u64 a1, .int .u64 a2, .int .u64 a3, .int .u64 a4, .int .u64 a5], .agg #[.int .u64 b0, .int .u64 b1, .int .u64 b2, .int .u64 b3, .int .u64 b4, .int .u64 b5]] w fun e w' => e = .returned (.agg #[.int .u64 (max a0 b0), .int .u64 (max a1 b1), .int .u64 (max a2 b2), .int .u64 (max a3 b3), .int .u64 (max a4 b4), .int .u64 (max a5 b5)]) ∧ Below w.heap.size w w' := by
  go_enter Try.func8, Try.ntmps8
  go_wp2_with fail
  with_reducible first | apply gen_wp (w0 := w) | apply gen_list (w0 := w) | apply gen_calls (w0 := w)
  case hb => (repeat (with_reducible first | apply Blocks.alloc | apply Blocks.set | apply Blocks.drew | exact hB | exact Blocks.grow hB hw | exact Blocks.nil _))
  case hg => (repeat (with_reducible first | refine Grow.alloc' ?_ | (refine Grow.set' ?_ (by first | exact Nat.le_refl _ | (simp only []; omega) | (simp; done))) | refine Grow.drew' ?_ | exact hG | exact Grow.trans hG hw | exact Grow.refl _))
  (try clear hw); (try clear hR); (try clear hI); (try clear hZ); (try clear hs0); (try clear hB); (try clear hG)
  intro W hB hG
  try simp (disch := omega) only [List.map_cons, List.map_nil, List.setIfInBounds_toArray, List.set_cons_zero, List.set_cons_succ, World.size_alloc, if_pos, if_neg, if_false, if_true] at hB
  have hR := hB.rules
  simp only [RulesAt] at hR
  have hZ := hB.lts
  simp only [LtsAt] at hZ
  have hs0 := hG.size
  have hI := Grow.refl W
  refine (each_any _ (fun x y => max x y) _ _ _ _ _ _ _ _ _ _ _ _ _ greater_any ha hb (fun args w => by kernel_rfl)).mono ?_
  rintro e w' ⟨rfl, hw⟩
  go_wp2_with (with_reducible apply wl_store_row (i := 0))
  case hx => rfl
  case hy => rfl
  case hB => first | exact hB | exact hB.grow hw
  case hG => first | exact hG | exact hG.trans hw
  case hi => rfl
  case hsz => kernel_rfl
  case hcs => rfl
  case h1 => simp [Value.oneCell']
  case hb0 => (first | exact Nat.le_refl _ | omega)
  (try clear hw); (try clear hR); (try clear hI); (try clear hZ); (try clear hs0); (try clear hB); (try clear hG)
  intro W hB hG
  try simp (disch := omega) only [List.map_cons, List.map_nil, List.setIfInBounds_toArray, List.set_cons_zero, List.set_cons_succ, World.size_alloc, if_pos, if_neg, if_false, if_true] at hB
  have hR := hB.rules
  simp only [RulesAt] at hR
  have hZ := hB.lts
  simp only [LtsAt] at hZ
  have hs0 := hG.size
  have hI := Grow.refl W
  simp only [Act.put]
  go_wp2
  refine bodyPost_ret (v := .agg #[.int .u64 (max a0 b0), .int .u64 (max a1 b1), .int .u64 (max a2 b2), .int .u64 (max a3 b3), .int .u64 (max a4 b4), .int .u64 (max a5 b5)]) ?_ rfl ⟨rfl, hG⟩
  simp [results, Try.results8, go_sem, hR, hI]

theorem Meet_any (a0 a1 a2 a3 a4 a5 b0 b1 b2 b3 b4 b5 : Int) (w : World) (ha : U6 a0 a1 a2 a3 a4 a5) (hb : U6 b0 b1 b2 b3 b4 b5) :
    Calls Try.prog 9 #[.agg #[.int .u64 a0, .int .u64 a1, .int .u64 a2, .int .u64 a3, .int .u64 a4, .int .u64 a5], .agg #[.int .u64 b0, .int .u64 b1, .int .u64 b2, .int .u64 b3, .int .u64 b4, .int .u64 b5]] w fun e w' => e = .returned (.agg #[.int .u64 (min a0 b0), .int .u64 (min a1 b1), .int .u64 (min a2 b2), .int .u64 (min a3 b3), .int .u64 (min a4 b4), .int .u64 (min a5 b5)]) ∧ Below w.heap.size w w' := by
  go_enter Try.func9, Try.ntmps9
  go_wp2_with fail
  with_reducible first | apply gen_wp (w0 := w) | apply gen_list (w0 := w) | apply gen_calls (w0 := w)
  case hb => (repeat (with_reducible first | apply Blocks.alloc | apply Blocks.set | apply Blocks.drew | exact hB | exact Blocks.grow hB hw | exact Blocks.nil _))
  case hg => (repeat (with_reducible first | refine Grow.alloc' ?_ | (refine Grow.set' ?_ (by first | exact Nat.le_refl _ | (simp only []; omega) | (simp; done))) | refine Grow.drew' ?_ | exact hG | exact Grow.trans hG hw | exact Grow.refl _))
  (try clear hw); (try clear hR); (try clear hI); (try clear hZ); (try clear hs0); (try clear hB); (try clear hG)
  intro W hB hG
  try simp (disch := omega) only [List.map_cons, List.map_nil, List.setIfInBounds_toArray, List.set_cons_zero, List.set_cons_succ, World.size_alloc, if_pos, if_neg, if_false, if_true] at hB
  have hR := hB.rules
  simp only [RulesAt] at hR
  have hZ := hB.lts
  simp only [LtsAt] at hZ
  have hs0 := hG.size
  have hI := Grow.refl W
  refine (each_any _ (fun x y => min x y) _ _ _ _ _ _ _ _ _ _ _ _ _ lesser_any ha hb (fun args w => by kernel_rfl)).mono ?_
  rintro e w' ⟨rfl, hw⟩
  go_wp2_with (with_reducible apply wl_store_row (i := 0))
  case hx => rfl
  case hy => rfl
  case hB => first | exact hB | exact hB.grow hw
  case hG => first | exact hG | exact hG.trans hw
  case hi => rfl
  case hsz => kernel_rfl
  case hcs => rfl
  case h1 => simp [Value.oneCell']
  case hb0 => (first | exact Nat.le_refl _ | omega)
  (try clear hw); (try clear hR); (try clear hI); (try clear hZ); (try clear hs0); (try clear hB); (try clear hG)
  intro W hB hG
  try simp (disch := omega) only [List.map_cons, List.map_nil, List.setIfInBounds_toArray, List.set_cons_zero, List.set_cons_succ, World.size_alloc, if_pos, if_neg, if_false, if_true] at hB
  have hR := hB.rules
  simp only [RulesAt] at hR
  have hZ := hB.lts
  simp only [LtsAt] at hZ
  have hs0 := hG.size
  have hI := Grow.refl W
  simp only [Act.put]
  go_wp2
  refine bodyPost_ret (v := .agg #[.int .u64 (min a0 b0), .int .u64 (min a1 b1), .int .u64 (min a2 b2), .int .u64 (min a3 b3), .int .u64 (min a4 b4), .int .u64 (min a5 b5)]) ?_ rfl ⟨rfl, hG⟩
  simp [results, Try.results9, go_sem, hR, hI]

theorem eql_vec (x0 x1 x2 x3 x4 x5 y0 y1 y2 y3 y4 y5 : Int) (w : World) :
    Sem.run Try.prog (Op.equalIn 10000 24 (.agg #[.int .u64 x0, .int .u64 x1, .int .u64 x2, .int .u64 x3, .int .u64 x4, .int .u64 x5]) (.agg #[.int .u64 y0, .int .u64 y1, .int .u64 y2, .int .u64 y3, .int .u64 y4, .int .u64 y5])) w = .ok (decide (x0 = y0 ∧ x1 = y1 ∧ x2 = y2 ∧ x3 = y3 ∧ x4 = y4 ∧ x5 = y5)) w :=
  eql_six 24 22 .u64 .u64 (by kernel_rfl) (by kernel_rfl) (by kernel_rfl) _ _ _ _ _ _ _ _ _ _ _ _ _

/-- As great? -/
def great (a0 a1 a2 a3 a4 a5 b0 b1 b2 b3 b4 b5 : Int) : Bool := decide (b0 ≤ a0 ∧ b1 ≤ a1 ∧ b2 ≤ a2 ∧ b3 ≤ a3 ∧ b4 ≤ a4 ∧ b5 ≤ a5)

set_option maxHeartbeats 1000000 in
theorem Great_any (a0 a1 a2 a3 a4 a5 b0 b1 b2 b3 b4 b5 : Int) (w : World) (ha : U6 a0 a1 a2 a3 a4 a5) (hb : U6 b0 b1 b2 b3 b4 b5) :
    Calls Try.prog 10 #[.agg #[.int .u64 a0, .int .u64 a1, .int .u64 a2, .int .u64 a3, .int .u64 a4, .int .u64 a5], .agg #[.int .u64 b0, .int .u64 b1, .int .u64 b2, .int .u64 b3, .int .u64 b4, .int .u64 b5]] w fun e w' => e = .returned (.bool (great a0 a1 a2 a3 a4 a5 b0 b1 b2 b3 b4 b5)) ∧ Below w.heap.size w w' := by
  have heq := eql_vec
  go_enter Try.func10, Try.ntmps10
  go_wp2_with fail
  with_reducible first | apply gen_wp (w0 := w) | apply gen_list (w0 := w) | apply gen_calls (w0 := w)
  case hb => (repeat (with_reducible first | apply Blocks.alloc | apply Blocks.set | apply Blocks.drew | exact hB | exact Blocks.grow hB hw | exact Blocks.nil _))
  case hg => (repeat (with_reducible first | refine Grow.alloc' ?_ | (refine Grow.set' ?_ (by first | exact Nat.le_refl _ | (simp only []; omega) | (simp; done))) | refine Grow.drew' ?_ | exact hG | exact Grow.trans hG hw | exact Grow.refl _))
  (try clear hw); (try clear hR); (try clear hI); (try clear hZ); (try clear hs0); (try clear hB); (try clear hG)
  intro W hB hG
  try simp (disch := omega) only [List.map_cons, List.map_nil, List.setIfInBounds_toArray, List.set_cons_zero, List.set_cons_succ, World.size_alloc, if_pos, if_neg, if_false, if_true] at hB
  have hR := hB.rules
  simp only [RulesAt] at hR
  have hZ := hB.lts
  simp only [LtsAt] at hZ
  have hs0 := hG.size
  have hI := Grow.refl W
  refine wp_region_flow 5 (by kernel_rfl) (by kernel_rfl) (fun M hM K hK => ?_)
  simp only [List.take_succ_cons, List.take_zero]
  repeat (first
    | (refine flow_skip (fun x => rfl) ?_; simp only [Act.put, List.setIfInBounds_toArray, List.set_cons_zero, List.set_cons_succ, Nat.zero_add, Nat.reduceAdd])
    | (apply flow_const
       · (intro x wz hz _; refine ⟨rfl, ?_⟩; unfold newAt; go_simp; simp only [newUpon]; first | exact ⟨Grow.refl _, rfl⟩ | (refine ⟨Grow.refl _, ?_⟩; first | exact calls_const (Join_any _ _ _ _ _ _ _ _ _ _ _ _ _ ha hb)))
       simp only [Act.put, List.setIfInBounds_toArray, List.set_cons_zero, List.set_cons_succ, Nat.zero_add, Nat.reduceAdd]))
  (refine flow_nil ?_; intro x w' hz hfx hap; refine hK.out _ _ ?_; clear hK hM)
  have hw := hz
  clear hz
  clear hfx hap
  simp only [List.drop_succ_cons, List.drop_zero]
  go_wp2
  go_ret
  refine ⟨?_, hG.trans hw⟩
  refine congrArg Ending.returned ?_
  show Value.bool _ = Value.bool _
  refine congrArg Value.bool ?_
  rw [Bool.eq_iff_iff]
  simp [great]
  omega

def missing (a0 a1 a2 a3 a4 a5 b0 b1 b2 b3 b4 b5 : Int) : Int := (moreOf a0 b0 + moreOf a1 b1 + moreOf a2 b2 + moreOf a3 b3 + moreOf a4 b4 + moreOf a5 b5) % 18446744073709551616

set_option maxHeartbeats 1000000 in
theorem Missing_any (a0 a1 a2 a3 a4 a5 b0 b1 b2 b3 b4 b5 : Int) (w : World) (ha : U6 a0 a1 a2 a3 a4 a5) (hb : U6 b0 b1 b2 b3 b4 b5) :
    Calls Try.prog 12 #[.agg #[.int .u64 a0, .int .u64 a1, .int .u64 a2, .int .u64 a3, .int .u64 a4, .int .u64 a5], .agg #[.int .u64 b0, .int .u64 b1, .int .u64 b2, .int .u64 b3, .int .u64 b4, .int .u64 b5]] w fun e w' => e = .returned (.int .u64 (moreOf a0 b0 + moreOf a1 b1 + moreOf a2 b2 + moreOf a3 b3 + moreOf a4 b4 + moreOf a5 b5)) ∧ Below w.heap.size w w' := by
  have hm : ∀ x y, 0 ≤ moreOf x y ∧ moreOf x y ≤ 1099511627776 := by intro x y; unfold moreOf; split <;> omega
  go_enter Try.func12, Try.ntmps12
  go_wp2_with fail
  with_reducible first | apply gen_wp (w0 := w) | apply gen_list (w0 := w) | apply gen_calls (w0 := w)
  case hb => (repeat (with_reducible first | apply Blocks.alloc | apply Blocks.set | apply Blocks.drew | exact hB | exact Blocks.grow hB hw | exact Blocks.nil _))
  case hg => (repeat (with_reducible first | refine Grow.alloc' ?_ | (refine Grow.set' ?_ (by first | exact Nat.le_refl _ | (simp only []; omega) | (simp; done))) | refine Grow.drew' ?_ | exact hG | exact Grow.trans hG hw | exact Grow.refl _))
  (try clear hw); (try clear hR); (try clear hI); (try clear hZ); (try clear hs0); (try clear hB); (try clear hG)
  intro W hB hG
  try simp (disch := omega) only [List.map_cons, List.map_nil, List.setIfInBounds_toArray, List.set_cons_zero, List.set_cons_succ, World.size_alloc, if_pos, if_neg, if_false, if_true] at hB
  have hR := hB.rules
  simp only [RulesAt] at hR
  have hZ := hB.lts
  simp only [LtsAt] at hZ
  have hs0 := hG.size
  have hI := Grow.refl W
  refine (each_any _ moreOf _ _ _ _ _ _ _ _ _ _ _ _ _ more_any ha hb (fun args w => by kernel_rfl)).mono ?_
  rintro e w' ⟨rfl, hw⟩
  have h0 := hm a0 b0
  have h1 := hm a1 b1
  have h2 := hm a2 b2
  have h3 := hm a3 b3
  have h4 := hm a4 b4
  have h5 := hm a5 b5
  clear hm
  generalize e0 : moreOf a0 b0 = m0 at *
  generalize e1 : moreOf a1 b1 = m1 at *
  generalize e2 : moreOf a2 b2 = m2 at *
  generalize e3 : moreOf a3 b3 = m3 at *
  generalize e4 : moreOf a4 b4 = m4 at *
  generalize e5 : moreOf a5 b5 = m5 at *
  have E0 := Lib.hid e0
  have E1 := Lib.hid e1
  have E2 := Lib.hid e2
  have E3 := Lib.hid e3
  have E4 := Lib.hid e4
  have E5 := Lib.hid e5
  clear e0 e1 e2 e3 e4 e5
  clear ha hb hR hB
  have hix := index_six (P := Try.prog) 24 22 .u64 (by kernel_rfl) (by kernel_rfl) (by kernel_rfl)
  go_wp2
  refine wp_loop_rounds 7 ?_
  iterate 7
    rw [rounds_succ]
    go_wp2
  go_ret
  exact ⟨congrArg (fun z => Ending.returned (Value.int .u64 z)) (by rw [E0.out, E1.out, E2.out, E3.out, E4.out, E5.out]), hG.trans hw⟩

def total (a0 a1 a2 a3 a4 a5 : Int) : Int := min a0 1048576 + min a1 1048576 + min a2 1048576 + min a3 1048576 + min a4 1048576 + min a5 1048576

set_option maxHeartbeats 1000000 in
theorem Total_any (a0 a1 a2 a3 a4 a5 : Int) (w : World) (ha : U6 a0 a1 a2 a3 a4 a5) :
    Calls Try.prog 14 #[.agg #[.int .u64 a0, .int .u64 a1, .int .u64 a2, .int .u64 a3, .int .u64 a4, .int .u64 a5]] w fun e w' => e = .returned (.int .u64 (total a0 a1 a2 a3 a4 a5)) ∧ Below w.heap.size w w' := by
  simp only [U6, U64] at ha
  have hix := index_six (P := Try.prog) 24 22 .u64 (by kernel_rfl) (by kernel_rfl) (by kernel_rfl)
  have hn : ∀ x : Int, (if (1048576 : Int) < x then (1048576 : Int) else x) = min x 1048576 := fun x => by split <;> omega
  go_enter Try.func14, Try.ntmps14
  go_wp2
  refine wp_loop_rounds 7 ?_
  iterate 7
    rw [rounds_succ]
    go_wp2
  go_ret
  exact ⟨congrArg (fun z => Ending.returned (Value.int .u64 z)) (by simp only [total]), (Grow.refl w).alloc'⟩

theorem U6_mk (x0 x1 x2 x3 x4 x5 : Int) (h : (0 ≤ x0 ∧ x0 < 18446744073709551616) ∧ (0 ≤ x1 ∧ x1 < 18446744073709551616) ∧ (0 ≤ x2 ∧ x2 < 18446744073709551616) ∧ (0 ≤ x3 ∧ x3 < 18446744073709551616) ∧ (0 ≤ x4 ∧ x4 < 18446744073709551616) ∧ (0 ≤ x5 ∧ x5 < 18446744073709551616)) : U6 x0 x1 x2 x3 x4 x5 := h

set_option maxHeartbeats 1000000 in
theorem awake_any (w : World) :
    Calls Try.prog 11 #[] w fun e w' => e = .returned (.bool true) ∧ Below w.heap.size w w' := by
  go_enter Try.func11, Try.ntmps11
  go_wp2_with fail
  with_reducible first | apply gen_wp (w0 := w) | apply gen_list (w0 := w) | apply gen_calls (w0 := w)
  case hb => (repeat (with_reducible first | apply Blocks.alloc | apply Blocks.set | apply Blocks.drew | exact hB | exact Blocks.grow hB hw | exact Blocks.nil _))
  case hg => (repeat (with_reducible first | refine Grow.alloc' ?_ | (refine Grow.set' ?_ (by first | exact Nat.le_refl _ | (simp only []; omega) | (simp; done))) | refine Grow.drew' ?_ | exact hG | exact Grow.trans hG hw | exact Grow.refl _))
  (try clear hw); (try clear hR); (try clear hI); (try clear hZ); (try clear hs0); (try clear hB); (try clear hG)
  intro W hB hG
  try simp (disch := omega) only [List.map_cons, List.map_nil, List.setIfInBounds_toArray, List.set_cons_zero, List.set_cons_succ, World.size_alloc, if_pos, if_neg, if_false, if_true] at hB
  have hR := hB.rules
  simp only [RulesAt] at hR
  have hZ := hB.lts
  simp only [LtsAt] at hZ
  have hs0 := hG.size
  have hI := Grow.refl W
  refine (Missing_any 0 0 0 0 0 0 1 2 0 0 0 0 _ (U6_mk _ _ _ _ _ _ (by decide)) (U6_mk _ _ _ _ _ _ (by decide))).mono ?_
  rintro e w' ⟨rfl, hw⟩
  rw [show moreOf 0 1 + moreOf 0 2 + moreOf 0 0 + moreOf 0 0 + moreOf 0 0 + moreOf 0 0 = 3 from by decide]
  go_wp2_with fail
  refine (Great_any 1 0 0 0 0 0 0 0 0 0 0 0 _ (U6_mk _ _ _ _ _ _ (by decide)) (U6_mk _ _ _ _ _ _ (by decide))).mono ?_
  rintro e w2 ⟨rfl, hw2⟩
  rw [show great 1 0 0 0 0 0 0 0 0 0 0 0 = true from by decide]
  go_wp2
  go_ret
  exact ⟨rfl, hG.trans (Grow.trans hw hw2)⟩
end Go.Proofs.Ytnlejejjeilpoaa
