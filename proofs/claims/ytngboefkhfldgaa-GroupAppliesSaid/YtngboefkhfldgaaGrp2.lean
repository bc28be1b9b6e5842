/- Layer 17: group.Counts. -/
import Derived.Test.YtngboefkhfldgaaGrp1
set_option linter.unusedSimpArgs false
set_option linter.unusedVariables false
set_option linter.constructorNameAsVariable false
namespace Go.Proofs.Ytngboefkhfldgaa
open Go.RowKit Go.Flow

attribute [local go_sem] G_0 G_1 G_2 G_3 G_4 G_5 G_6 G_7 G_8 G_9 G_10 G_11 G_12 G_13 G_14 G_15 G_16 G_17 G_18 G_19 G_20

theorem Counts_gone1 (g : Grp) (seq : Int) (w : World) (hm : at6 g.mem 1 = false) (hg : at6 g.gone 1 = true) :
    Calls Try.prog 12 #[.agg (G g), .int .i64 1, .int .u64 seq] w fun e w' => e = .returned (.bool (counts g 1 seq)) ∧ Below w.heap.size w w' := by
  have hGs : Hid ((G g).size = 21) := G_size g
  go_enter Try.func12, Try.ntmps12
  go_wp2_with (with_reducible apply stop_load)
  intro _
  with_reducible first | apply gen_wp (w0 := w) | apply gen_list (w0 := w) | apply gen_calls (w0 := w)
  case hb => (repeat (with_reducible first | apply Blocks.alloc | apply Blocks.set | apply Blocks.drew | exact hB | exact Blocks.grow hB hw | exact Blocks.nil _))
  case hg => (repeat (with_reducible first | refine Grow.alloc' ?_ | (refine Grow.set' ?_ (by first | exact Nat.le_refl _ | (simp only []; omega) | (simp; done))) | refine Grow.drew' ?_ | exact hG | exact Grow.trans hG hw | exact Grow.refl _))
  (try clear hw); (try clear hR); (try clear hI); (try clear hZ); (try clear hs0); (try clear hB); (try clear hG)
  intro W hB hG
  try simp (disch := omega) only [List.map_cons, List.map_nil, List.setIfInBounds_toArray, List.set_cons_zero, List.set_cons_succ, World.size_alloc, if_pos, if_neg, if_false, if_true] at hB
  have hR := hB.rules
  simp only [RulesAt] at hR
  have hZ := hB.lts
  simp only [LtsAt] at hZ
  have hs0 := hG.size
  have hI := Grow.refl W
  go_wp2_with (with_reducible apply wl_load_rowG (i := 0))
  case hx => rfl
  (try case hg => rfl)
  case hB => first | exact hB | exact hB.grow hw
  case hi => rfl
  case hcs => (first | assumption | rfl | (simp; done) | (simp; assumption))
  case hrow => kernel_rfl
  intro _
  simp only [Act.put]
  go_wp2_with fail
  refine (Is_any g _ _).mono ?_
  rintro e w' ⟨rfl, hw⟩
  rw [hm]
  go_wp2_with (with_reducible apply stop_load)
  intro _
  with_reducible first | apply gen_wp (w0 := w) | apply gen_list (w0 := w) | apply gen_calls (w0 := w)
  case hb => (repeat (with_reducible first | apply Blocks.alloc | apply Blocks.set | apply Blocks.drew | exact hB | exact Blocks.grow hB hw | exact Blocks.nil _))
  case hg => (repeat (with_reducible first | refine Grow.alloc' ?_ | (refine Grow.set' ?_ (by first | exact Nat.le_refl _ | (simp only []; omega) | (simp; done))) | refine Grow.drew' ?_ | exact hG | exact Grow.trans hG hw | exact Grow.refl _))
  (try clear hw); (try clear hR); (try clear hI); (try clear hZ); (try clear hs0); (try clear hB); (try clear hG)
  intro W hB hG
  try simp (disch := omega) only [List.map_cons, List.map_nil, List.setIfInBounds_toArray, List.set_cons_zero, List.set_cons_succ, World.size_alloc, if_pos, if_neg, if_false, if_true] at hB
  have hR := hB.rules
  simp only [RulesAt] at hR
  have hZ := hB.lts
  simp only [LtsAt] at hZ
  have hs0 := hG.size
  have hI := Grow.refl W
  go_wp2_with (with_reducible apply wl_load_rowG (i := 0))
  case hx => rfl
  (try case hg => rfl)
  case hB => first | exact hB | exact hB.grow hw
  case hi => rfl
  case hcs => (first | assumption | rfl | (simp; done) | (simp; assumption))
  case hrow => kernel_rfl
  intro _
  simp only [Act.put]
  go_wp2_with fail
  refine (gone_any g _ _).mono ?_
  rintro e w' ⟨rfl, hw⟩
  rw [hg]
  go_wp2
  go_ret
  exact ⟨by simp [counts, hm, hg], hG.trans hw⟩
theorem Counts_gone2 (g : Grp) (seq : Int) (w : World) (hm : at6 g.mem 2 = false) (hg : at6 g.gone 2 = true) :
    Calls Try.prog 12 #[.agg (G g), .int .i64 2, .int .u64 seq] w fun e w' => e = .returned (.bool (counts g 2 seq)) ∧ Below w.heap.size w w' := by
  have hGs : Hid ((G g).size = 21) := G_size g
  go_enter Try.func12, Try.ntmps12
  go_wp2_with (with_reducible apply stop_load)
  intro _
  with_reducible first | apply gen_wp (w0 := w) | apply gen_list (w0 := w) | apply gen_calls (w0 := w)
  case hb => (repeat (with_reducible first | apply Blocks.alloc | apply Blocks.set | apply Blocks.drew | exact hB | exact Blocks.grow hB hw | exact Blocks.nil _))
  case hg => (repeat (with_reducible first | refine Grow.alloc' ?_ | (refine Grow.set' ?_ (by first | exact Nat.le_refl _ | (simp only []; omega) | (simp; done))) | refine Grow.drew' ?_ | exact hG | exact Grow.trans hG hw | exact Grow.refl _))
  (try clear hw); (try clear hR); (try clear hI); (try clear hZ); (try clear hs0); (try clear hB); (try clear hG)
  intro W hB hG
  try simp (disch := omega) only [List.map_cons, List.map_nil, List.setIfInBounds_toArray, List.set_cons_zero, List.set_cons_succ, World.size_alloc, if_pos, if_neg, if_false, if_true] at hB
  have hR := hB.rules
  simp only [RulesAt] at hR
  have hZ := hB.lts
  simp only [LtsAt] at hZ
  have hs0 := hG.size
  have hI := Grow.refl W
  go_wp2_with (with_reducible apply wl_load_rowG (i := 0))
  case hx => rfl
  (try case hg => rfl)
  case hB => first | exact hB | exact hB.grow hw
  case hi => rfl
  case hcs => (first | assumption | rfl | (simp; done) | (simp; assumption))
  case hrow => kernel_rfl
  intro _
  simp only [Act.put]
  go_wp2_with fail
  refine (Is_any g _ _).mono ?_
  rintro e w' ⟨rfl, hw⟩
  rw [hm]
  go_wp2_with (with_reducible apply stop_load)
  intro _
  with_reducible first | apply gen_wp (w0 := w) | apply gen_list (w0 := w) | apply gen_calls (w0 := w)
  case hb => (repeat (with_reducible first | apply Blocks.alloc | apply Blocks.set | apply Blocks.drew | exact hB | exact Blocks.grow hB hw | exact Blocks.nil _))
  case hg => (repeat (with_reducible first | refine Grow.alloc' ?_ | (refine Grow.set' ?_ (by first | exact Nat.le_refl _ | (simp only []; omega) | (simp; done))) | refine Grow.drew' ?_ | exact hG | exact Grow.trans hG hw | exact Grow.refl _))
  (try clear hw); (try clear hR); (try clear hI); (try clear hZ); (try clear hs0); (try clear hB); (try clear hG)
  intro W hB hG
  try simp (disch := omega) only [List.map_cons, List.map_nil, List.setIfInBounds_toArray, List.set_cons_zero, List.set_cons_succ, World.size_alloc, if_pos, if_neg, if_false, if_true] at hB
  have hR := hB.rules
  simp only [RulesAt] at hR
  have hZ := hB.lts
  simp only [LtsAt] at hZ
  have hs0 := hG.size
  have hI := Grow.refl W
  go_wp2_with (with_reducible apply wl_load_rowG (i := 0))
  case hx => rfl
  (try case hg => rfl)
  case hB => first | exact hB | exact hB.grow hw
  case hi => rfl
  case hcs => (first | assumption | rfl | (simp; done) | (simp; assumption))
  case hrow => kernel_rfl
  intro _
  simp only [Act.put]
  go_wp2_with fail
  refine (gone_any g _ _).mono ?_
  rintro e w' ⟨rfl, hw⟩
  rw [hg]
  go_wp2
  go_ret
  exact ⟨by simp [counts, hm, hg], hG.trans hw⟩
theorem Counts_gone3 (g : Grp) (seq : Int) (w : World) (hm : at6 g.mem 3 = false) (hg : at6 g.gone 3 = true) :
    Calls Try.prog 12 #[.agg (G g), .int .i64 3, .int .u64 seq] w fun e w' => e = .returned (.bool (counts g 3 seq)) ∧ Below w.heap.size w w' := by
  have hGs : Hid ((G g).size = 21) := G_size g
  go_enter Try.func12, Try.ntmps12
  go_wp2_with (with_reducible apply stop_load)
  intro _
  with_reducible first | apply gen_wp (w0 := w) | apply gen_list (w0 := w) | apply gen_calls (w0 := w)
  case hb => (repeat (with_reducible first | apply Blocks.alloc | apply Blocks.set | apply Blocks.drew | exact hB | exact Blocks.grow hB hw | exact Blocks.nil _))
  case hg => (repeat (with_reducible first | refine Grow.alloc' ?_ | (refine Grow.set' ?_ (by first | exact Nat.le_refl _ | (simp only []; omega) | (simp; done))) | refine Grow.drew' ?_ | exact hG | exact Grow.trans hG hw | exact Grow.refl _))
  (try clear hw); (try clear hR); (try clear hI); (try clear hZ); (try clear hs0); (try clear hB); (try clear hG)
  intro W hB hG
  try simp (disch := omega) only [List.map_cons, List.map_nil, List.setIfInBounds_toArray, List.set_cons_zero, List.set_cons_succ, World.size_alloc, if_pos, if_neg, if_false, if_true] at hB
  have hR := hB.rules
  simp only [RulesAt] at hR
  have hZ := hB.lts
  simp only [LtsAt] at hZ
  have hs0 := hG.size
  have hI := Grow.refl W
  go_wp2_with (with_reducible apply wl_load_rowG (i := 0))
  case hx => rfl
  (try case hg => rfl)
  case hB => first | exact hB | exact hB.grow hw
  case hi => rfl
  case hcs => (first | assumption | rfl | (simp; done) | (simp; assumption))
  case hrow => kernel_rfl
  intro _
  simp only [Act.put]
  go_wp2_with fail
  refine (Is_any g _ _).mono ?_
  rintro e w' ⟨rfl, hw⟩
  rw [hm]
  go_wp2_with (with_reducible apply stop_load)
  intro _
  with_reducible first | apply gen_wp (w0 := w) | apply gen_list (w0 := w) | apply gen_calls (w0 := w)
  case hb => (repeat (with_reducible first | apply Blocks.alloc | apply Blocks.set | apply Blocks.drew | exact hB | exact Blocks.grow hB hw | exact Blocks.nil _))
  case hg => (repeat (with_reducible first | refine Grow.alloc' ?_ | (refine Grow.set' ?_ (by first | exact Nat.le_refl _ | (simp only []; omega) | (simp; done))) | refine Grow.drew' ?_ | exact hG | exact Grow.trans hG hw | exact Grow.refl _))
  (try clear hw); (try clear hR); (try clear hI); (try clear hZ); (try clear hs0); (try clear hB); (try clear hG)
  intro W hB hG
  try simp (disch := omega) only [List.map_cons, List.map_nil, List.setIfInBounds_toArray, List.set_cons_zero, List.set_cons_succ, World.size_alloc, if_pos, if_neg, if_false, if_true] at hB
  have hR := hB.rules
  simp only [RulesAt] at hR
  have hZ := hB.lts
  simp only [LtsAt] at hZ
  have hs0 := hG.size
  have hI := Grow.refl W
  go_wp2_with (with_reducible apply wl_load_rowG (i := 0))
  case hx => rfl
  (try case hg => rfl)
  case hB => first | exact hB | exact hB.grow hw
  case hi => rfl
  case hcs => (first | assumption | rfl | (simp; done) | (simp; assumption))
  case hrow => kernel_rfl
  intro _
  simp only [Act.put]
  go_wp2_with fail
  refine (gone_any g _ _).mono ?_
  rintro e w' ⟨rfl, hw⟩
  rw [hg]
  go_wp2
  go_ret
  exact ⟨by simp [counts, hm, hg], hG.trans hw⟩
theorem Counts_gone4 (g : Grp) (seq : Int) (w : World) (hm : at6 g.mem 4 = false) (hg : at6 g.gone 4 = true) :
    Calls Try.prog 12 #[.agg (G g), .int .i64 4, .int .u64 seq] w fun e w' => e = .returned (.bool (counts g 4 seq)) ∧ Below w.heap.size w w' := by
  have hGs : Hid ((G g).size = 21) := G_size g
  go_enter Try.func12, Try.ntmps12
  go_wp2_with (with_reducible apply stop_load)
  intro _
  with_reducible first | apply gen_wp (w0 := w) | apply gen_list (w0 := w) | apply gen_calls (w0 := w)
  case hb => (repeat (with_reducible first | apply Blocks.alloc | apply Blocks.set | apply Blocks.drew | exact hB | exact Blocks.grow hB hw | exact Blocks.nil _))
  case hg => (repeat (with_reducible first | refine Grow.alloc' ?_ | (refine Grow.set' ?_ (by first | exact Nat.le_refl _ | (simp only []; omega) | (simp; done))) | refine Grow.drew' ?_ | exact hG | exact Grow.trans hG hw | exact Grow.refl _))
  (try clear hw); (try clear hR); (try clear hI); (try clear hZ); (try clear hs0); (try clear hB); (try clear hG)
  intro W hB hG
  try simp (disch := omega) only [List.map_cons, List.map_nil, List.setIfInBounds_toArray, List.set_cons_zero, List.set_cons_succ, World.size_alloc, if_pos, if_neg, if_false, if_true] at hB
  have hR := hB.rules
  simp only [RulesAt] at hR
  have hZ := hB.lts
  simp only [LtsAt] at hZ
  have hs0 := hG.size
  have hI := Grow.refl W
  go_wp2_with (with_reducible apply wl_load_rowG (i := 0))
  case hx => rfl
  (try case hg => rfl)
  case hB => first | exact hB | exact hB.grow hw
  case hi => rfl
  case hcs => (first | assumption | rfl | (simp; done) | (simp; assumption))
  case hrow => kernel_rfl
  intro _
  simp only [Act.put]
  go_wp2_with fail
  refine (Is_any g _ _).mono ?_
  rintro e w' ⟨rfl, hw⟩
  rw [hm]
  go_wp2_with (with_reducible apply stop_load)
  intro _
  with_reducible first | apply gen_wp (w0 := w) | apply gen_list (w0 := w) | apply gen_calls (w0 := w)
  case hb => (repeat (with_reducible first | apply Blocks.alloc | apply Blocks.set | apply Blocks.drew | exact hB | exact Blocks.grow hB hw | exact Blocks.nil _))
  case hg => (repeat (with_reducible first | refine Grow.alloc' ?_ | (refine Grow.set' ?_ (by first | exact Nat.le_refl _ | (simp only []; omega) | (simp; done))) | refine Grow.drew' ?_ | exact hG | exact Grow.trans hG hw | exact Grow.refl _))
  (try clear hw); (try clear hR); (try clear hI); (try clear hZ); (try clear hs0); (try clear hB); (try clear hG)
  intro W hB hG
  try simp (disch := omega) only [List.map_cons, List.map_nil, List.setIfInBounds_toArray, List.set_cons_zero, List.set_cons_succ, World.size_alloc, if_pos, if_neg, if_false, if_true] at hB
  have hR := hB.rules
  simp only [RulesAt] at hR
  have hZ := hB.lts
  simp only [LtsAt] at hZ
  have hs0 := hG.size
  have hI := Grow.refl W
  go_wp2_with (with_reducible apply wl_load_rowG (i := 0))
  case hx => rfl
  (try case hg => rfl)
  case hB => first | exact hB | exact hB.grow hw
  case hi => rfl
  case hcs => (first | assumption | rfl | (simp; done) | (simp; assumption))
  case hrow => kernel_rfl
  intro _
  simp only [Act.put]
  go_wp2_with fail
  refine (gone_any g _ _).mono ?_
  rintro e w' ⟨rfl, hw⟩
  rw [hg]
  go_wp2
  go_ret
  exact ⟨by simp [counts, hm, hg], hG.trans hw⟩
theorem Counts_gone5 (g : Grp) (seq : Int) (w : World) (hm : at6 g.mem 5 = false) (hg : at6 g.gone 5 = true) :
    Calls Try.prog 12 #[.agg (G g), .int .i64 5, .int .u64 seq] w fun e w' => e = .returned (.bool (counts g 5 seq)) ∧ Below w.heap.size w w' := by
  have hGs : Hid ((G g).size = 21) := G_size g
  go_enter Try.func12, Try.ntmps12
  go_wp2_with (with_reducible apply stop_load)
  intro _
  with_reducible first | apply gen_wp (w0 := w) | apply gen_list (w0 := w) | apply gen_calls (w0 := w)
  case hb => (repeat (with_reducible first | apply Blocks.alloc | apply Blocks.set | apply Blocks.drew | exact hB | exact Blocks.grow hB hw | exact Blocks.nil _))
  case hg => (repeat (with_reducible first | refine Grow.alloc' ?_ | (refine Grow.set' ?_ (by first | exact Nat.le_refl _ | (simp only []; omega) | (simp; done))) | refine Grow.drew' ?_ | exact hG | exact Grow.trans hG hw | exact Grow.refl _))
  (try clear hw); (try clear hR); (try clear hI); (try clear hZ); (try clear hs0); (try clear hB); (try clear hG)
  intro W hB hG
  try simp (disch := omega) only [List.map_cons, List.map_nil, List.setIfInBounds_toArray, List.set_cons_zero, List.set_cons_succ, World.size_alloc, if_pos, if_neg, if_false, if_true] at hB
  have hR := hB.rules
  simp only [RulesAt] at hR
  have hZ := hB.lts
  simp only [LtsAt] at hZ
  have hs0 := hG.size
  have hI := Grow.refl W
  go_wp2_with (with_reducible apply wl_load_rowG (i := 0))
  case hx => rfl
  (try case hg => rfl)
  case hB => first | exact hB | exact hB.grow hw
  case hi => rfl
  case hcs => (first | assumption | rfl | (simp; done) | (simp; assumption))
  case hrow => kernel_rfl
  intro _
  simp only [Act.put]
  go_wp2_with fail
  refine (Is_any g _ _).mono ?_
  rintro e w' ⟨rfl, hw⟩
  rw [hm]
  go_wp2_with (with_reducible apply stop_load)
  intro _
  with_reducible first | apply gen_wp (w0 := w) | apply gen_list (w0 := w) | apply gen_calls (w0 := w)
  case hb => (repeat (with_reducible first | apply Blocks.alloc | apply Blocks.set | apply Blocks.drew | exact hB | exact Blocks.grow hB hw | exact Blocks.nil _))
  case hg => (repeat (with_reducible first | refine Grow.alloc' ?_ | (refine Grow.set' ?_ (by first | exact Nat.le_refl _ | (simp only []; omega) | (simp; done))) | refine Grow.drew' ?_ | exact hG | exact Grow.trans hG hw | exact Grow.refl _))
  (try clear hw); (try clear hR); (try clear hI); (try clear hZ); (try clear hs0); (try clear hB); (try clear hG)
  intro W hB hG
  try simp (disch := omega) only [List.map_cons, List.map_nil, List.setIfInBounds_toArray, List.set_cons_zero, List.set_cons_succ, World.size_alloc, if_pos, if_neg, if_false, if_true] at hB
  have hR := hB.rules
  simp only [RulesAt] at hR
  have hZ := hB.lts
  simp only [LtsAt] at hZ
  have hs0 := hG.size
  have hI := Grow.refl W
  go_wp2_with (with_reducible apply wl_load_rowG (i := 0))
  case hx => rfl
  (try case hg => rfl)
  case hB => first | exact hB | exact hB.grow hw
  case hi => rfl
  case hcs => (first | assumption | rfl | (simp; done) | (simp; assumption))
  case hrow => kernel_rfl
  intro _
  simp only [Act.put]
  go_wp2_with fail
  refine (gone_any g _ _).mono ?_
  rintro e w' ⟨rfl, hw⟩
  rw [hg]
  go_wp2
  go_ret
  exact ⟨by simp [counts, hm, hg], hG.trans hw⟩
theorem Counts_gone6 (g : Grp) (seq : Int) (w : World) (hm : at6 g.mem 6 = false) (hg : at6 g.gone 6 = true) :
    Calls Try.prog 12 #[.agg (G g), .int .i64 6, .int .u64 seq] w fun e w' => e = .returned (.bool (counts g 6 seq)) ∧ Below w.heap.size w w' := by
  have hGs : Hid ((G g).size = 21) := G_size g
  go_enter Try.func12, Try.ntmps12
  go_wp2_with (with_reducible apply stop_load)
  intro _
  with_reducible first | apply gen_wp (w0 := w) | apply gen_list (w0 := w) | apply gen_calls (w0 := w)
  case hb => (repeat (with_reducible first | apply Blocks.alloc | apply Blocks.set | apply Blocks.drew | exact hB | exact Blocks.grow hB hw | exact Blocks.nil _))
  case hg => (repeat (with_reducible first | refine Grow.alloc' ?_ | (refine Grow.set' ?_ (by first | exact Nat.le_refl _ | (simp only []; omega) | (simp; done))) | refine Grow.drew' ?_ | exact hG | exact Grow.trans hG hw | exact Grow.refl _))
  (try clear hw); (try clear hR); (try clear hI); (try clear hZ); (try clear hs0); (try clear hB); (try clear hG)
  intro W hB hG
  try simp (disch := omega) only [List.map_cons, List.map_nil, List.setIfInBounds_toArray, List.set_cons_zero, List.set_cons_succ, World.size_alloc, if_pos, if_neg, if_false, if_true] at hB
  have hR := hB.rules
  simp only [RulesAt] at hR
  have hZ := hB.lts
  simp only [LtsAt] at hZ
  have hs0 := hG.size
  have hI := Grow.refl W
  go_wp2_with (with_reducible apply wl_load_rowG (i := 0))
  case hx => rfl
  (try case hg => rfl)
  case hB => first | exact hB | exact hB.grow hw
  case hi => rfl
  case hcs => (first | assumption | rfl | (simp; done) | (simp; assumption))
  case hrow => kernel_rfl
  intro _
  simp only [Act.put]
  go_wp2_with fail
  refine (Is_any g _ _).mono ?_
  rintro e w' ⟨rfl, hw⟩
  rw [hm]
  go_wp2_with (with_reducible apply stop_load)
  intro _
  with_reducible first | apply gen_wp (w0 := w) | apply gen_list (w0 := w) | apply gen_calls (w0 := w)
  case hb => (repeat (with_reducible first | apply Blocks.alloc | apply Blocks.set | apply Blocks.drew | exact hB | exact Blocks.grow hB hw | exact Blocks.nil _))
  case hg => (repeat (with_reducible first | refine Grow.alloc' ?_ | (refine Grow.set' ?_ (by first | exact Nat.le_refl _ | (simp only []; omega) | (simp; done))) | refine Grow.drew' ?_ | exact hG | exact Grow.trans hG hw | exact Grow.refl _))
  (try clear hw); (try clear hR); (try clear hI); (try clear hZ); (try clear hs0); (try clear hB); (try clear hG)
  intro W hB hG
  try simp (disch := omega) only [List.map_cons, List.map_nil, List.setIfInBounds_toArray, List.set_cons_zero, List.set_cons_succ, World.size_alloc, if_pos, if_neg, if_false, if_true] at hB
  have hR := hB.rules
  simp only [RulesAt] at hR
  have hZ := hB.lts
  simp only [LtsAt] at hZ
  have hs0 := hG.size
  have hI := Grow.refl W
  go_wp2_with (with_reducible apply wl_load_rowG (i := 0))
  case hx => rfl
  (try case hg => rfl)
  case hB => first | exact hB | exact hB.grow hw
  case hi => rfl
  case hcs => (first | assumption | rfl | (simp; done) | (simp; assumption))
  case hrow => kernel_rfl
  intro _
  simp only [Act.put]
  go_wp2_with fail
  refine (gone_any g _ _).mono ?_
  rintro e w' ⟨rfl, hw⟩
  rw [hg]
  go_wp2
  go_ret
  exact ⟨by simp [counts, hm, hg], hG.trans hw⟩

theorem Counts_any (g : Grp) (n seq : Int) (w : World) :
    Calls Try.prog 12 #[.agg (G g), .int .i64 n, .int .u64 seq] w fun e w' => e = .returned (.bool (counts g n seq)) ∧ Below w.heap.size w w' := by
  cases hm : at6 g.mem n
  · cases hg : at6 g.gone n
    · have hGs : Hid ((G g).size = 21) := G_size g
      go_enter Try.func12, Try.ntmps12
      go_wp2_with (with_reducible apply stop_load)
      intro _
      with_reducible first | apply gen_wp (w0 := w) | apply gen_list (w0 := w) | apply gen_calls (w0 := w)
      case hb => (repeat (with_reducible first | apply Blocks.alloc | apply Blocks.set | apply Blocks.drew | exact hB | exact Blocks.grow hB hw | exact Blocks.nil _))
      case hg => (repeat (with_reducible first | refine Grow.alloc' ?_ | (refine Grow.set' ?_ (by first | exact Nat.le_refl _ | (simp only []; omega) | (simp; done))) | refine Grow.drew' ?_ | exact hG | exact Grow.trans hG hw | exact Grow.refl _))
      (try clear hw); (try clear hR); (try clear hI); (try clear hZ); (try clear hs0); (try clear hB); (try clear hG)
      intro W hB hG
      try simp (disch := omega) only [List.map_cons, List.map_nil, List.setIfInBounds_toArray, List.set_cons_zero, List.set_cons_succ, World.size_alloc, if_pos, if_neg, if_false, if_true] at hB
      have hR := hB.rules
      simp only [RulesAt] at hR
      have hZ := hB.lts
      simp only [LtsAt] at hZ
      have hs0 := hG.size
      have hI := Grow.refl W
      go_wp2_with (with_reducible apply wl_load_rowG (i := 0))
      case hx => rfl
      (try case hg => rfl)
      case hB => first | exact hB | exact hB.grow hw
      case hi => rfl
      case hcs => (first | assumption | rfl | (simp; done) | (simp; assumption))
      case hrow => kernel_rfl
      intro _
      simp only [Act.put]
      go_wp2_with fail
      refine (Is_any g n _).mono ?_
      rintro e w' ⟨rfl, hw⟩
      rw [hm]
      go_wp2_with (with_reducible apply stop_load)
      intro _
      with_reducible first | apply gen_wp (w0 := w) | apply gen_list (w0 := w) | apply gen_calls (w0 := w)
      case hb => (repeat (with_reducible first | apply Blocks.alloc | apply Blocks.set | apply Blocks.drew | exact hB | exact Blocks.grow hB hw | exact Blocks.nil _))
      case hg => (repeat (with_reducible first | refine Grow.alloc' ?_ | (refine Grow.set' ?_ (by first | exact Nat.le_refl _ | (simp only []; omega) | (simp; done))) | refine Grow.drew' ?_ | exact hG | exact Grow.trans hG hw | exact Grow.refl _))
      (try clear hw); (try clear hR); (try clear hI); (try clear hZ); (try clear hs0); (try clear hB); (try clear hG)
      intro W hB hG
      try simp (disch := omega) only [List.map_cons, List.map_nil, List.setIfInBounds_toArray, List.set_cons_zero, List.set_cons_succ, World.size_alloc, if_pos, if_neg, if_false, if_true] at hB
      have hR := hB.rules
      simp only [RulesAt] at hR
      have hZ := hB.lts
      simp only [LtsAt] at hZ
      have hs0 := hG.size
      have hI := Grow.refl W
      go_wp2_with (with_reducible apply wl_load_rowG (i := 0))
      case hx => rfl
      (try case hg => rfl)
      case hB => first | exact hB | exact hB.grow hw
      case hi => rfl
      case hcs => (first | assumption | rfl | (simp; done) | (simp; assumption))
      case hrow => kernel_rfl
      intro _
      simp only [Act.put]
      go_wp2_with fail
      refine (gone_any g n _).mono ?_
      rintro e w' ⟨rfl, hw⟩
      rw [hg]
      go_wp2
      go_ret
      exact ⟨by simp [counts, hm, hg], hG.trans hw⟩
    · have h : isW n = true := by simp [at6] at hg; exact hg.1
      rcases isW_cases h with rfl | rfl | rfl | rfl | rfl | rfl
      · exact Counts_gone1 g seq w hm hg
      · exact Counts_gone2 g seq w hm hg
      · exact Counts_gone3 g seq w hm hg
      · exact Counts_gone4 g seq w hm hg
      · exact Counts_gone5 g seq w hm hg
      · exact Counts_gone6 g seq w hm hg
  · have hGs : Hid ((G g).size = 21) := G_size g
    go_enter Try.func12, Try.ntmps12
    go_wp2_with (with_reducible apply stop_load)
    intro _
    with_reducible first | apply gen_wp (w0 := w) | apply gen_list (w0 := w) | apply gen_calls (w0 := w)
    case hb => (repeat (with_reducible first | apply Blocks.alloc | apply Blocks.set | apply Blocks.drew | exact hB | exact Blocks.grow hB hw | exact Blocks.nil _))
    case hg => (repeat (with_reducible first | refine Grow.alloc' ?_ | (refine Grow.set' ?_ (by first | exact Nat.le_refl _ | (simp only []; omega) | (simp; done))) | refine Grow.drew' ?_ | exact hG | exact Grow.trans hG hw | exact Grow.refl _))
    (try clear hw); (try clear hR); (try clear hI); (try clear hZ); (try clear hs0); (try clear hB); (try clear hG)
    intro W hB hG
    try simp (disch := omega) only [List.map_cons, List.map_nil, List.setIfInBounds_toArray, List.set_cons_zero, List.set_cons_succ, World.size_alloc, if_pos, if_neg, if_false, if_true] at hB
    have hR := hB.rules
    simp only [RulesAt] at hR
    have hZ := hB.lts
    simp only [LtsAt] at hZ
    have hs0 := hG.size
    have hI := Grow.refl W
    go_wp2_with (with_reducible apply wl_load_rowG (i := 0))
    case hx => rfl
    (try case hg => rfl)
    case hB => first | exact hB | exact hB.grow hw
    case hi => rfl
    case hcs => (first | assumption | rfl | (simp; done) | (simp; assumption))
    case hrow => kernel_rfl
    intro _
    simp only [Act.put]
    go_wp2_with fail
    refine (Is_any g n _).mono ?_
    rintro e w' ⟨rfl, hw⟩
    rw [hm]
    go_wp2
    go_ret
    exact ⟨by simp [counts, hm], hG.trans hw⟩

end Go.Proofs.Ytngboefkhfldgaa
