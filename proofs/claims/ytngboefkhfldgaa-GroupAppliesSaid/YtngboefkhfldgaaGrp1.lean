/- Layer 17: what a group is, and what group.Is, group.gone, group.Counts, group.formed answer. No condition. -/
import Derived.Test.YtngboefkhfldgaaRows
import Derived.Test.YtngboefkhfldgaaFlow
import Derived.Test.YtngboefkhfldgaaFlow2
import Derived.WalkKit
import Derived.Lib.Hide
import Derived.WalkSpells
import Derived.WalkLawsBesides
set_option linter.unusedSimpArgs false
set_option linter.unusedVariables false
set_option linter.constructorNameAsVariable false
namespace Go.Proofs.Ytngboefkhfldgaa
open Go.RowKit Go.Flow

/-- Who belongs to a group. -/
structure Grp where
  owner : Int
  epoch : Int
  seen : Int
  mem : Nat → Bool
  gone : Nat → Bool
  cut : Nat → Int

/-- A group's cells. -/
def G (g : Grp) : Array Value := #[.int .i64 g.owner, .int .i64 g.epoch, .bool (g.mem 0), .bool (g.mem 1), .bool (g.mem 2), .bool (g.mem 3), .bool (g.mem 4), .bool (g.mem 5),
  .bool (g.gone 0), .bool (g.gone 1), .bool (g.gone 2), .bool (g.gone 3), .bool (g.gone 4), .bool (g.gone 5),
  .int .u64 (g.cut 0), .int .u64 (g.cut 1), .int .u64 (g.cut 2), .int .u64 (g.cut 3), .int .u64 (g.cut 4), .int .u64 (g.cut 5), .int .i64 g.seen]

theorem G_size (g : Grp) : (G g).size = 21 := rfl
theorem G_one (g : Grp) : (G g).all (·.oneCell') = true := by simp [G, Value.oneCell']
theorem G_0 (g : Grp) : (G g)[0]? = some (.int .i64 g.owner) := rfl
theorem G_1 (g : Grp) : (G g)[1]? = some (.int .i64 g.epoch) := rfl
theorem G_2 (g : Grp) : (G g)[2]? = some (.bool (g.mem 0)) := rfl
theorem G_3 (g : Grp) : (G g)[3]? = some (.bool (g.mem 1)) := rfl
theorem G_4 (g : Grp) : (G g)[4]? = some (.bool (g.mem 2)) := rfl
theorem G_5 (g : Grp) : (G g)[5]? = some (.bool (g.mem 3)) := rfl
theorem G_6 (g : Grp) : (G g)[6]? = some (.bool (g.mem 4)) := rfl
theorem G_7 (g : Grp) : (G g)[7]? = some (.bool (g.mem 5)) := rfl
theorem G_8 (g : Grp) : (G g)[8]? = some (.bool (g.gone 0)) := rfl
theorem G_9 (g : Grp) : (G g)[9]? = some (.bool (g.gone 1)) := rfl
theorem G_10 (g : Grp) : (G g)[10]? = some (.bool (g.gone 2)) := rfl
theorem G_11 (g : Grp) : (G g)[11]? = some (.bool (g.gone 3)) := rfl
theorem G_12 (g : Grp) : (G g)[12]? = some (.bool (g.gone 4)) := rfl
theorem G_13 (g : Grp) : (G g)[13]? = some (.bool (g.gone 5)) := rfl
theorem G_14 (g : Grp) : (G g)[14]? = some (.int .u64 (g.cut 0)) := rfl
theorem G_15 (g : Grp) : (G g)[15]? = some (.int .u64 (g.cut 1)) := rfl
theorem G_16 (g : Grp) : (G g)[16]? = some (.int .u64 (g.cut 2)) := rfl
theorem G_17 (g : Grp) : (G g)[17]? = some (.int .u64 (g.cut 3)) := rfl
theorem G_18 (g : Grp) : (G g)[18]? = some (.int .u64 (g.cut 4)) := rfl
theorem G_19 (g : Grp) : (G g)[19]? = some (.int .u64 (g.cut 5)) := rfl
theorem G_20 (g : Grp) : (G g)[20]? = some (.int .i64 g.seen) := rfl
attribute [local go_sem] G_0 G_1 G_2 G_3 G_4 G_5 G_6 G_7 G_8 G_9 G_10 G_11 G_12 G_13 G_14 G_15 G_16 G_17 G_18 G_19 G_20

/-- A writer's number. -/
def isW (n : Int) : Bool := decide (1 ≤ n) && decide (n ≤ 6)

theorem isW_cases {n : Int} (h : isW n = true) : n = 1 ∨ n = 2 ∨ n = 3 ∨ n = 4 ∨ n = 5 ∨ n = 6 := by
  simp [isW] at h; omega

theorem writer_any (n : Int) (w : World) :
    Calls Try.prog 20 #[.int .i64 n] w fun e w' => e = .returned (.bool (isW n)) ∧ w' = w := by
  go_enter Try.func20, Try.ntmps20
  by_cases h1 : 1 ≤ n
  all_goals by_cases h2 : n ≤ 6
  all_goals
    go_wp2
    go_ret
    exact ⟨by simp [isW, h1, h2], rfl⟩

/-- One of a list of six, by its number. -/
def at6 (m : Nat → Bool) (n : Int) : Bool := isW n && m (n - 1).toNat

set_option maxHeartbeats 1000000 in
theorem Is_any (g : Grp) (n : Int) (w : World) :
    Calls Try.prog 11 #[.agg (G g), .int .i64 n] w fun e w' => e = .returned (.bool (at6 g.mem n)) ∧ Below w.heap.size w w' := by
  cases h : isW n
  · go_enter Try.func11, Try.ntmps11
    go_wp2_with fail
    with_reducible first | apply gen_wp (w0 := w) | apply gen_list (w0 := w) | apply gen_calls (w0 := w)
    case hb => (repeat (with_reducible first | apply Blocks.alloc | apply Blocks.set | apply Blocks.drew | exact hB | exact Blocks.grow hB hw | exact Blocks.nil _))
    case hg => (repeat (with_reducible first | refine Grow.alloc' ?_ | (refine Grow.set' ?_ (by first | exact Nat.le_refl _ | (simp only []; omega) | (simp; done))) | refine Grow.drew' ?_ | exact hG | exact Grow.trans hG hw | exact Grow.refl _))
    (try clear hw); (try clear hR); (try clear hI); (try clear hZ); (try clear hs0); (try clear hB); (try clear hG)
    intro W hB hG
    try simp (disch := omega) only [List.map_cons, List.map_nil, List.setIfInBounds_toArray, List.set_cons_zero, List.set_cons_succ, World.size_alloc, if_pos, if_neg, if_false, if_true] at hB
    have hR := hB.rules
    simp only [RulesAt] at hR
    have hZ := hB.lts
    simp only [LtsAt] at hZ
    have hs0 := hG.size
    have hI := Grow.refl W
    refine (writer_any n _).mono ?_
    rintro e w' ⟨rfl, rfl⟩
    rw [h]
    go_wp2
    go_ret
    exact ⟨by simp [at6, h]; try rfl, hG⟩
  · rcases isW_cases h with rfl | rfl | rfl | rfl | rfl | rfl
    all_goals
      have hGs : Hid ((G g).size = 21) := G_size g
      go_enter Try.func11, Try.ntmps11
      go_wp2_with fail
      with_reducible first | apply gen_wp (w0 := w) | apply gen_list (w0 := w) | apply gen_calls (w0 := w)
      case hb => (repeat (with_reducible first | apply Blocks.alloc | apply Blocks.set | apply Blocks.drew | exact hB | exact Blocks.grow hB hw | exact Blocks.nil _))
      case hg => (repeat (with_reducible first | refine Grow.alloc' ?_ | (refine Grow.set' ?_ (by first | exact Nat.le_refl _ | (simp only []; omega) | (simp; done))) | refine Grow.drew' ?_ | exact hG | exact Grow.trans hG hw | exact Grow.refl _))
      (try clear hw); (try clear hR); (try clear hI); (try clear hZ); (try clear hs0); (try clear hB); (try clear hG)
      intro W hB hG
      try simp (disch := omega) only [List.map_cons, List.map_nil, List.setIfInBounds_toArray, List.set_cons_zero, List.set_cons_succ, World.size_alloc, if_pos, if_neg, if_false, if_true] at hB
      have hR := hB.rules
      simp only [RulesAt] at hR
      have hZ := hB.lts
      simp only [LtsAt] at hZ
      have hs0 := hG.size
      have hI := Grow.refl W
      refine (writer_any _ _).mono ?_
      rintro e w' ⟨rfl, rfl⟩
      rw [h]
      go_wp2
      go_ret
      exact ⟨by simp [at6, h]; try rfl, hG⟩

set_option maxHeartbeats 1000000 in
theorem gone_any (g : Grp) (n : Int) (w : World) :
    Calls Try.prog 23 #[.agg (G g), .int .i64 n] w fun e w' => e = .returned (.bool (at6 g.gone n)) ∧ Below w.heap.size w w' := by
  cases h : isW n
  · go_enter Try.func23, Try.ntmps23
    go_wp2_with fail
    with_reducible first | apply gen_wp (w0 := w) | apply gen_list (w0 := w) | apply gen_calls (w0 := w)
    case hb => (repeat (with_reducible first | apply Blocks.alloc | apply Blocks.set | apply Blocks.drew | exact hB | exact Blocks.grow hB hw | exact Blocks.nil _))
    case hg => (repeat (with_reducible first | refine Grow.alloc' ?_ | (refine Grow.set' ?_ (by first | exact Nat.le_refl _ | (simp only []; omega) | (simp; done))) | refine Grow.drew' ?_ | exact hG | exact Grow.trans hG hw | exact Grow.refl _))
    (try clear hw); (try clear hR); (try clear hI); (try clear hZ); (try clear hs0); (try clear hB); (try clear hG)
    intro W hB hG
    try simp (disch := omega) only [List.map_cons, List.map_nil, List.setIfInBounds_toArray, List.set_cons_zero, List.set_cons_succ, World.size_alloc, if_pos, if_neg, if_false, if_true] at hB
    have hR := hB.rules
    simp only [RulesAt] at hR
    have hZ := hB.lts
    simp only [LtsAt] at hZ
    have hs0 := hG.size
    have hI := Grow.refl W
    refine (writer_any n _).mono ?_
    rintro e w' ⟨rfl, rfl⟩
    rw [h]
    go_wp2
    go_ret
    exact ⟨by simp [at6, h]; try rfl, hG⟩
  · rcases isW_cases h with rfl | rfl | rfl | rfl | rfl | rfl
    all_goals
      have hGs : Hid ((G g).size = 21) := G_size g
      go_enter Try.func23, Try.ntmps23
      go_wp2_with fail
      with_reducible first | apply gen_wp (w0 := w) | apply gen_list (w0 := w) | apply gen_calls (w0 := w)
      case hb => (repeat (with_reducible first | apply Blocks.alloc | apply Blocks.set | apply Blocks.drew | exact hB | exact Blocks.grow hB hw | exact Blocks.nil _))
      case hg => (repeat (with_reducible first | refine Grow.alloc' ?_ | (refine Grow.set' ?_ (by first | exact Nat.le_refl _ | (simp only []; omega) | (simp; done))) | refine Grow.drew' ?_ | exact hG | exact Grow.trans hG hw | exact Grow.refl _))
      (try clear hw); (try clear hR); (try clear hI); (try clear hZ); (try clear hs0); (try clear hB); (try clear hG)
      intro W hB hG
      try simp (disch := omega) only [List.map_cons, List.map_nil, List.setIfInBounds_toArray, List.set_cons_zero, List.set_cons_succ, World.size_alloc, if_pos, if_neg, if_false, if_true] at hB
      have hR := hB.rules
      simp only [RulesAt] at hR
      have hZ := hB.lts
      simp only [LtsAt] at hZ
      have hs0 := hG.size
      have hI := Grow.refl W
      refine (writer_any _ _).mono ?_
      rintro e w' ⟨rfl, rfl⟩
      rw [h]
      go_wp2
      go_ret
      exact ⟨by simp [at6, h]; try rfl, hG⟩

/-- Whether an entry of a writer counts. -/
def counts (g : Grp) (n seq : Int) : Bool := at6 g.mem n || (at6 g.gone n && decide (seq ≤ g.cut (n - 1).toNat))

/-- Whether an op has the member that it wants. -/
def formed (op member : Int) : Bool :=
  if op = 1 ∨ op = 4 then decide (member = 0) else if op = 2 ∨ op = 3 ∨ op = 5 then isW member else false

theorem formed_any (op member : Int) (w : World) :
    Calls Try.prog 21 #[.int .i64 op, .int .i64 member] w fun e w' => e = .returned (.bool (formed op member)) ∧ w' = w := by
  by_cases h1 : op = 1
  · subst h1
    go_enter Try.func21, Try.ntmps21
    go_wp2
    go_ret
    exact ⟨by simp [formed]; try rfl, rfl⟩
  by_cases h4 : op = 4
  · subst h4
    go_enter Try.func21, Try.ntmps21
    go_wp2
    go_ret
    exact ⟨by simp [formed]; try rfl, rfl⟩
  by_cases h2 : op = 2 ∨ op = 3 ∨ op = 5
  · rcases h2 with rfl | rfl | rfl
    all_goals
      go_enter Try.func21, Try.ntmps21
      go_wp2_with fail
      refine (writer_any _ _).mono ?_
      rintro e w' ⟨rfl, rfl⟩
      go_wp2
      go_ret
      exact ⟨by simp [formed]; try rfl, rfl⟩
  · have h2' : op ≠ 2 := by omega
    have h3' : op ≠ 3 := by omega
    have h5' : op ≠ 5 := by omega
    go_enter Try.func21, Try.ntmps21
    go_wp2
    go_ret
    exact ⟨by simp [formed, h1, h4, h2', h3', h5'], rfl⟩
end Go.Proofs.Ytngboefkhfldgaa
