/- Layer 17: group.state, group.May. -/
import Derived.Test.YtngboefkhfldgaaGrp1
set_option linter.unusedSimpArgs false
set_option linter.unusedVariables false
set_option linter.constructorNameAsVariable false
namespace Go.Proofs.Ytngboefkhfldgaa
open Go.RowKit Go.Flow

attribute [local go_sem] G_0 G_1 G_2 G_3 G_4 G_5 G_6 G_7 G_8 G_9 G_10 G_11 G_12 G_13 G_14 G_15 G_16 G_17 G_18 G_19 G_20

/-- Whether an op may be where a group stands. -/
def stateOf (g : Grp) (n op member : Int) : Bool :=
  if op = 1 then decide (g.owner = 0) else if g.owner ≠ n then false else
  if op = 2 then !at6 g.mem member && !at6 g.gone member else if op = 3 ∨ op = 5 then at6 g.mem member && decide (member ≠ g.owner) else true

def StateSays (g : Grp) (n op member : Int) (w : World) : Prop :=
    Calls Try.prog 22 #[.agg (G g), .int .i64 n, .int .i64 op, .int .i64 member] w fun e w' => e = .returned (.bool (stateOf g n op member)) ∧ Below w.heap.size w w'

theorem state_1 (g : Grp) (n member : Int) (w : World) : StateSays g n 1 member w := by
  unfold StateSays
  go_enter Try.func22, Try.ntmps22
  go_wp2
  go_ret
  exact ⟨by simp [stateOf]; try rfl, (Grow.refl w).alloc'⟩

theorem state_no (g : Grp) (n op member : Int) (w : World) (h1 : op ≠ 1) (hn : g.owner ≠ n) : StateSays g n op member w := by
  unfold StateSays
  go_enter Try.func22, Try.ntmps22
  go_wp2
  go_ret
  exact ⟨by simp [stateOf, h1, hn]; try rfl, (Grow.refl w).alloc'⟩

theorem state_4 (g : Grp) (op member : Int) (w : World) (h1 : op ≠ 1) (h2 : op ≠ 2) (h3 : op ≠ 3) (h5 : op ≠ 5) : StateSays g g.owner op member w := by
  unfold StateSays
  go_enter Try.func22, Try.ntmps22
  go_wp2
  go_ret
  exact ⟨by simp [stateOf, h1, h2, h3, h5]; try rfl, (Grow.refl w).alloc'⟩

theorem state_2 (g : Grp) (member : Int) (w : World) : StateSays g g.owner 2 member w := by
  unfold StateSays
  have hGs : Hid ((G g).size = 21) := G_size g
  cases hm : at6 g.mem member
  · cases hg : at6 g.gone member
    all_goals
      go_enter Try.func22, Try.ntmps22
      go_wp2_with (with_reducible apply stop_load (ty := 28))
      intro _
      with_reducible first | apply gen_wp (w0 := w) | apply gen_list (w0 := w) | apply gen_calls (w0 := w)
      case hb => (repeat (with_reducible first | apply Blocks.alloc | apply Blocks.set | apply Blocks.drew | exact hB | exact Blocks.grow hB hw | exact Blocks.nil _))
      case hg => (repeat (with_reducible first | refine Grow.alloc' ?_ | (refine Grow.set' ?_ (by first | exact Nat.le_refl _ | (simp only []; omega) | (simp; done))) | refine Grow.drew' ?_ | exact hG | exact Grow.trans hG hw | exact Grow.refl _))
      (try clear hw); (try clear hR); (try clear hI); (try clear hZ); (try clear hs0); (try clear hB); (try clear hG)
      intro W hB hG
      try simp (disch := omega) only [List.map_cons, List.map_nil, List.setIfInBounds_toArray, List.set_cons_zero, List.set_cons_succ, World.size_alloc, if_pos, if_neg, if_false, if_true] at hB
      have hR := hB.rules
      simp only [RulesAt] at hR
      have hZ := hB.lts
      simp only [LtsAt] at hZ
      have hs0 := hG.size
      have hI := Grow.refl W
      go_wp2_with (with_reducible apply wl_load_rowG (i := 0))
      case hx => rfl
      (try case hg => rfl)
      case hB => first | exact hB | exact hB.grow hw
      case hi => rfl
      case hcs => (first | assumption | rfl | (simp; done) | (simp; assumption))
      case hrow => kernel_rfl
      intro _
      simp only [Act.put]
      go_wp2_with fail
      refine (Is_any g _ _).mono ?_
      rintro e w' ⟨rfl, hw⟩
      rw [hm]
      go_wp2_with (with_reducible apply stop_load (ty := 28))
      intro _
      with_reducible first | apply gen_wp (w0 := w) | apply gen_list (w0 := w) | apply gen_calls (w0 := w)
      case hb => (repeat (with_reducible first | apply Blocks.alloc | apply Blocks.set | apply Blocks.drew | exact hB | exact Blocks.grow hB hw | exact Blocks.nil _))
      case hg => (repeat (with_reducible first | refine Grow.alloc' ?_ | (refine Grow.set' ?_ (by first | exact Nat.le_refl _ | (simp only []; omega) | (simp; done))) | refine Grow.drew' ?_ | exact hG | exact Grow.trans hG hw | exact Grow.refl _))
      (try clear hw); (try clear hR); (try clear hI); (try clear hZ); (try clear hs0); (try clear hB); (try clear hG)
      intro W hB hG
      try simp (disch := omega) only [List.map_cons, List.map_nil, List.setIfInBounds_toArray, List.set_cons_zero, List.set_cons_succ, World.size_alloc, if_pos, if_neg, if_false, if_true] at hB
      have hR := hB.rules
      simp only [RulesAt] at hR
      have hZ := hB.lts
      simp only [LtsAt] at hZ
      have hs0 := hG.size
      have hI := Grow.refl W
      go_wp2_with (with_reducible apply wl_load_rowG (i := 0))
      case hx => rfl
      (try case hg => rfl)
      case hB => first | exact hB | exact hB.grow hw
      case hi => rfl
      case hcs => (first | assumption | rfl | (simp; done) | (simp; assumption))
      case hrow => kernel_rfl
      intro _
      simp only [Act.put]
      go_wp2_with fail
      refine (gone_any g _ _).mono ?_
      rintro e w' ⟨rfl, hw⟩
      rw [hg]
      go_wp2
      go_ret
      exact ⟨by simp [stateOf, hm, hg]; try rfl, hG.trans hw⟩
  · go_enter Try.func22, Try.ntmps22
    go_wp2_with (with_reducible apply stop_load (ty := 28))
    intro _
    with_reducible first | apply gen_wp (w0 := w) | apply gen_list (w0 := w) | apply gen_calls (w0 := w)
    case hb => (repeat (with_reducible first | apply Blocks.alloc | apply Blocks.set | apply Blocks.drew | exact hB | exact Blocks.grow hB hw | exact Blocks.nil _))
    case hg => (repeat (with_reducible first | refine Grow.alloc' ?_ | (refine Grow.set' ?_ (by first | exact Nat.le_refl _ | (simp only []; omega) | (simp; done))) | refine Grow.drew' ?_ | exact hG | exact Grow.trans hG hw | exact Grow.refl _))
    (try clear hw); (try clear hR); (try clear hI); (try clear hZ); (try clear hs0); (try clear hB); (try clear hG)
    intro W hB hG
    try simp (disch := omega) only [List.map_cons, List.map_nil, List.setIfInBounds_toArray, List.set_cons_zero, List.set_cons_succ, World.size_alloc, if_pos, if_neg, if_false, if_true] at hB
    have hR := hB.rules
    simp only [RulesAt] at hR
    have hZ := hB.lts
    simp only [LtsAt] at hZ
    have hs0 := hG.size
    have hI := Grow.refl W
    go_wp2_with (with_reducible apply wl_load_rowG (i := 0))
    case hx => rfl
    (try case hg => rfl)
    case hB => first | exact hB | exact hB.grow hw
    case hi => rfl
    case hcs => (first | assumption | rfl | (simp; done) | (simp; assumption))
    case hrow => kernel_rfl
    intro _
    simp only [Act.put]
    go_wp2_with fail
    refine (Is_any g _ _).mono ?_
    rintro e w' ⟨rfl, hw⟩
    rw [hm]
    go_wp2
    go_ret
    exact ⟨by simp [stateOf, hm]; try rfl, hG.trans hw⟩

theorem state_3 (g : Grp) (member : Int) (w : World) : StateSays g g.owner 3 member w := by
  unfold StateSays
  have hGs : Hid ((G g).size = 21) := G_size g
  cases hm : at6 g.mem member
  all_goals
    go_enter Try.func22, Try.ntmps22
    go_wp2_with (with_reducible apply stop_load (ty := 28))
    intro _
    with_reducible first | apply gen_wp (w0 := w) | apply gen_list (w0 := w) | apply gen_calls (w0 := w)
    case hb => (repeat (with_reducible first | apply Blocks.alloc | apply Blocks.set | apply Blocks.drew | exact hB | exact Blocks.grow hB hw | exact Blocks.nil _))
    case hg => (repeat (with_reducible first | refine Grow.alloc' ?_ | (refine Grow.set' ?_ (by first | exact Nat.le_refl _ | (simp only []; omega) | (simp; done))) | refine Grow.drew' ?_ | exact hG | exact Grow.trans hG hw | exact Grow.refl _))
    (try clear hw); (try clear hR); (try clear hI); (try clear hZ); (try clear hs0); (try clear hB); (try clear hG)
    intro W hB hG
    try simp (disch := omega) only [List.map_cons, List.map_nil, List.setIfInBounds_toArray, List.set_cons_zero, List.set_cons_succ, World.size_alloc, if_pos, if_neg, if_false, if_true] at hB
    have hR := hB.rules
    simp only [RulesAt] at hR
    have hZ := hB.lts
    simp only [LtsAt] at hZ
    have hs0 := hG.size
    have hI := Grow.refl W
    go_wp2_with (with_reducible apply wl_load_rowG (i := 0))
    case hx => rfl
    (try case hg => rfl)
    case hB => first | exact hB | exact hB.grow hw
    case hi => rfl
    case hcs => (first | assumption | rfl | (simp; done) | (simp; assumption))
    case hrow => kernel_rfl
    intro _
    simp only [Act.put]
    go_wp2_with fail
    refine (Is_any g _ _).mono ?_
    rintro e w' ⟨rfl, hw⟩
    rw [hm]
    go_wp2
    go_ret
    exact ⟨by simp [stateOf, hm]; try rfl, hG.trans hw⟩

theorem state_5 (g : Grp) (member : Int) (w : World) : StateSays g g.owner 5 member w := by
  unfold StateSays
  have hGs : Hid ((G g).size = 21) := G_size g
  cases hm : at6 g.mem member
  all_goals
    go_enter Try.func22, Try.ntmps22
    go_wp2_with (with_reducible apply stop_load (ty := 28))
    intro _
    with_reducible first | apply gen_wp (w0 := w) | apply gen_list (w0 := w) | apply gen_calls (w0 := w)
    case hb => (repeat (with_reducible first | apply Blocks.alloc | apply Blocks.set | apply Blocks.drew | exact hB | exact Blocks.grow hB hw | exact Blocks.nil _))
    case hg => (repeat (with_reducible first | refine Grow.alloc' ?_ | (refine Grow.set' ?_ (by first | exact Nat.le_refl _ | (simp only []; omega) | (simp; done))) | refine Grow.drew' ?_ | exact hG | exact Grow.trans hG hw | exact Grow.refl _))
    (try clear hw); (try clear hR); (try clear hI); (try clear hZ); (try clear hs0); (try clear hB); (try clear hG)
    intro W hB hG
    try simp (disch := omega) only [List.map_cons, List.map_nil, List.setIfInBounds_toArray, List.set_cons_zero, List.set_cons_succ, World.size_alloc, if_pos, if_neg, if_false, if_true] at hB
    have hR := hB.rules
    simp only [RulesAt] at hR
    have hZ := hB.lts
    simp only [LtsAt] at hZ
    have hs0 := hG.size
    have hI := Grow.refl W
    go_wp2_with (with_reducible apply wl_load_rowG (i := 0))
    case hx => rfl
    (try case hg => rfl)
    case hB => first | exact hB | exact hB.grow hw
    case hi => rfl
    case hcs => (first | assumption | rfl | (simp; done) | (simp; assumption))
    case hrow => kernel_rfl
    intro _
    simp only [Act.put]
    go_wp2_with fail
    refine (Is_any g _ _).mono ?_
    rintro e w' ⟨rfl, hw⟩
    rw [hm]
    go_wp2
    go_ret
    exact ⟨by simp [stateOf, hm]; try rfl, hG.trans hw⟩

theorem state_any (g : Grp) (n op member : Int) (w : World) : StateSays g n op member w := by
  by_cases h1 : op = 1
  · subst h1; exact state_1 g n member w
  by_cases hn : g.owner = n
  · subst hn
    by_cases h2 : op = 2
    · subst h2; exact state_2 g member w
    by_cases h3 : op = 3
    · subst h3; exact state_3 g member w
    by_cases h5 : op = 5
    · subst h5; exact state_5 g member w
    exact state_4 g op member w h1 h2 h3 h5
  · exact state_no g n op member w h1 hn

/-- What is wrong with an op. -/
def mayOf (g : Grp) (n op member : Int) : Int :=
  if (isW n && formed op member) = false then 1 else if stateOf g n op member = false then 12 else if op ≠ 5 ∧ 255 ≤ g.epoch then 14 else 0

set_option maxHeartbeats 2000000 in
theorem May_any (g : Grp) (n op member : Int) (w : World) :
    Calls Try.prog 9 #[.agg (G g), .int .i64 n, .int .i64 op, .int .i64 member] w fun e w' => e = .returned (.int .i64 (mayOf g n op member)) ∧ Below w.heap.size w w' := by
  have hGs : Hid ((G g).size = 21) := G_size g
  cases hn : isW n
  · go_enter Try.func9, Try.ntmps9
    go_wp2_with fail
    refine (writer_any n _).mono ?_
    rintro e w' ⟨rfl, rfl⟩
    rw [hn]
    go_wp2
    go_ret
    exact ⟨by simp [mayOf, hn], (Grow.refl w).alloc'⟩
  cases hf : formed op member
  · go_enter Try.func9, Try.ntmps9
    go_wp2_with fail
    refine (writer_any n _).mono ?_
    rintro e w' ⟨rfl, rfl⟩
    rw [hn]
    go_wp2_with fail
    refine (formed_any op member _).mono ?_
    rintro e w' ⟨rfl, rfl⟩
    rw [hf]
    go_wp2
    go_ret
    exact ⟨by simp [mayOf, hn, hf], (Grow.refl w).alloc'⟩
  cases hs : stateOf g n op member
  all_goals
    go_enter Try.func9, Try.ntmps9
    go_wp2_with fail
    refine (writer_any n _).mono ?_
    rintro e w' ⟨rfl, rfl⟩
    rw [hn]
    go_wp2_with fail
    refine (formed_any op member _).mono ?_
    rintro e w' ⟨rfl, rfl⟩
    rw [hf]
    go_wp2_with (with_reducible apply stop_load (ty := 28))
    intro _
    with_reducible first | apply gen_wp (w0 := w) | apply gen_list (w0 := w) | apply gen_calls (w0 := w)
    case hb => (repeat (with_reducible first | apply Blocks.alloc | apply Blocks.set | apply Blocks.drew | exact hB | exact Blocks.grow hB hw | exact Blocks.nil _))
    case hg => (repeat (with_reducible first | refine Grow.alloc' ?_ | (refine Grow.set' ?_ (by first | exact Nat.le_refl _ | (simp only []; omega) | (simp; done))) | refine Grow.drew' ?_ | exact hG | exact Grow.trans hG hw | exact Grow.refl _))
    (try clear hw); (try clear hR); (try clear hI); (try clear hZ); (try clear hs0); (try clear hB); (try clear hG)
    intro W hB hG
    try simp (disch := omega) only [List.map_cons, List.map_nil, List.setIfInBounds_toArray, List.set_cons_zero, List.set_cons_succ, World.size_alloc, if_pos, if_neg, if_false, if_true] at hB
    have hR := hB.rules
    simp only [RulesAt] at hR
    have hZ := hB.lts
    simp only [LtsAt] at hZ
    have hs0 := hG.size
    have hI := Grow.refl W
    go_wp2_with (with_reducible apply wl_load_rowG (i := 0))
    case hx => rfl
    (try case hg => rfl)
    case hB => first | exact hB | exact hB.grow hw
    case hi => rfl
    case hcs => (first | assumption | rfl | (simp; done) | (simp; assumption))
    case hrow => kernel_rfl
    intro _
    simp only [Act.put]
    go_wp2_with fail
    refine (state_any g _ _ _ _).mono ?_
    rintro e w' ⟨rfl, hw⟩
    rw [hs]
    go_wp2
    all_goals
      go_ret
      refine ⟨?_, hG.trans hw⟩
      clear hR hB hG hZ hI hw hs0
      simp [mayOf, hn, hf, hs]
      try (first | omega | (simp_all; done) | (simp_all; omega))
end Go.Proofs.Ytngboefkhfldgaa
