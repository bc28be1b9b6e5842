/- Layer 17: group.Behind. -/
import Derived.Test.YtngboefkhfldgaaGrp3
set_option linter.unusedSimpArgs false
set_option linter.unusedVariables false
set_option linter.constructorNameAsVariable false
namespace Go.Proofs.Ytngboefkhfldgaa
open Go.RowKit Go.Flow

attribute [local go_sem] G_0 G_1 G_2 G_3 G_4 G_5 G_6 G_7 G_8 G_9 G_10 G_11 G_12 G_13 G_14 G_15 G_16 G_17 G_18 G_19 G_20

/-- One of a list, put. -/
def upd {α : Type} (m : Nat → α) (k : Nat) (v : α) : Nat → α := fun i => if i = k then v else m i

/-- A group behind an op that is formed. -/
def afterOp (g : Grp) (n op member cut : Int) : Grp :=
  let s := wrap64 (g.seen + 1)
  let e := wrap64 (g.epoch + 1)
  if op = 5 then { g with seen := s, owner := member }
  else if op = 1 then { g with seen := s, epoch := e, owner := n, mem := upd g.mem (n - 1).toNat true }
  else if op = 2 then { g with seen := s, epoch := e, mem := upd g.mem (member - 1).toNat true }
  else if op = 3 then { g with seen := s, epoch := e, mem := upd g.mem (member - 1).toNat false, gone := upd g.gone (member - 1).toNat true, cut := upd g.cut (member - 1).toNat cut }
  else { g with seen := s, epoch := e }

/-- A group behind an op. -/
def behind (g : Grp) (n op member cut : Int) : Grp := if (isW n && formed op member) = false then g else afterOp g n op member cut

theorem behind_eq {g : Grp} {n op member cut : Int} (hn : isW n = true) (hf : formed op member = true) : behind g n op member cut = afterOp g n op member cut := by simp [behind, hn, hf]

def BehindSays (g : Grp) (n op member cut : Int) (w : World) : Prop :=
    Calls Try.prog 10 #[.agg (G g), .int .i64 n, .int .i64 op, .int .i64 member, .int .u64 cut] w fun e w' => e = .returned (.agg (G (behind g n op member cut))) ∧ Below w.heap.size w w'

theorem behind_no (g : Grp) (n op member cut : Int) (w : World) (hn : isW n = false) : BehindSays g n op member cut w := by
  have hb : behind g n op member cut = g := by simp [behind, hn]
  unfold BehindSays
  rw [hb]
  have hGs : Hid ((G g).size = 21) := G_size g
  go_enter Try.func10, Try.ntmps10
  go_wp2_with fail
  with_reducible first | apply gen_wp (w0 := w) | apply gen_list (w0 := w) | apply gen_calls (w0 := w)
  case hb => (repeat (with_reducible first | apply Blocks.alloc | apply Blocks.set | apply Blocks.drew | exact hB | exact Blocks.grow hB hw | exact Blocks.nil _))
  case hg => (repeat (with_reducible first | refine Grow.alloc' ?_ | (refine Grow.set' ?_ (by first | exact Nat.le_refl _ | (simp only []; omega) | (simp; done))) | refine Grow.drew' ?_ | exact hG | exact Grow.trans hG hw | exact Grow.refl _))
  (try clear hw); (try clear hR); (try clear hI); (try clear hZ); (try clear hs0); (try clear hB); (try clear hG)
  intro W hB hG
  try simp (disch := omega) only [List.map_cons, List.map_nil, List.setIfInBounds_toArray, List.set_cons_zero, List.set_cons_succ, World.size_alloc, if_pos, if_neg, if_false, if_true] at hB
  have hR := hB.rules
  simp only [RulesAt] at hR
  have hZ := hB.lts
  simp only [LtsAt] at hZ
  have hs0 := hG.size
  have hI := Grow.refl W
  refine (writer_any _ _).mono ?_
  rintro e w' ⟨rfl, rfl⟩
  rw [hn]
  go_wp2_with (with_reducible apply stop_load (ty := 28))
  intro _
  with_reducible first | apply gen_wp (w0 := w) | apply gen_list (w0 := w) | apply gen_calls (w0 := w)
  case hb => (repeat (with_reducible first | apply Blocks.alloc | apply Blocks.set | apply Blocks.drew | exact hB | exact Blocks.grow hB hw | exact Blocks.nil _))
  case hg => (repeat (with_reducible first | refine Grow.alloc' ?_ | (refine Grow.set' ?_ (by first | exact Nat.le_refl _ | (simp only []; omega) | (simp; done))) | refine Grow.drew' ?_ | exact hG | exact Grow.trans hG hw | exact Grow.refl _))
  (try clear hw); (try clear hR); (try clear hI); (try clear hZ); (try clear hs0); (try clear hB); (try clear hG)
  intro W hB hG
  try simp (disch := omega) only [List.map_cons, List.map_nil, List.setIfInBounds_toArray, List.set_cons_zero, List.set_cons_succ, World.size_alloc, if_pos, if_neg, if_false, if_true] at hB
  have hR := hB.rules
  simp only [RulesAt] at hR
  have hZ := hB.lts
  simp only [LtsAt] at hZ
  have hs0 := hG.size
  have hI := Grow.refl W
  have hGo := G_one g
  go_wp2_with (with_reducible apply wl_load_rowG (i := 1))
  case hx => rfl
  (try case hg => rfl)
  case hB => first | exact hB | exact hB.grow hw
  case hi => rfl
  case hcs => (first | assumption | rfl | (simp; done) | (simp; assumption))
  case hrow => kernel_rfl
  intro _
  simp only [Act.put]
  go_wp2_with (with_reducible apply wl_store_row2 (i := 0))
  case hx => rfl
  case hy => rfl
  case hB => first | exact hB | exact hB.grow hw
  case hG => first | exact hG | exact hG.trans hw
  case hi => rfl
  case hcl => (first | assumption | rfl | (simp; done) | (simp; assumption))
  case hcs => (first | assumption | rfl | (simp; done) | (simp; assumption))
  case hrow => kernel_rfl
  case h1 => first | assumption | exact all_ints _ _ | simp [Value.oneCell']
  case hb0 => (first | exact Nat.le_refl _ | omega)
  (try clear hw); (try clear hR); (try clear hI); (try clear hZ); (try clear hs0); (try clear hB); (try clear hG)
  intro W hB hG
  try simp (disch := omega) only [List.map_cons, List.map_nil, List.setIfInBounds_toArray, List.set_cons_zero, List.set_cons_succ, World.size_alloc, if_pos, if_neg, if_false, if_true] at hB
  have hR := hB.rules
  simp only [RulesAt] at hR
  have hZ := hB.lts
  simp only [LtsAt] at hZ
  have hs0 := hG.size
  have hI := Grow.refl W
  simp only [Act.put]
  go_wp2
  (try simp only [Exit.inBlock, Exit.then])
  apply post_row (i := 0)
  case hr => rfl
  case hp => rfl
  case hB => first | exact hB | exact hB.grow hw
  case hi => rfl
  case hcs => (first | assumption | rfl | (simp; done) | (simp; assumption))
  case hrow => kernel_rfl
  case hd => rfl
  exact ⟨rfl, hG⟩

theorem behind_no2 (g : Grp) (n op member cut : Int) (w : World) (hn : isW n = true) (hf : formed op member = false) : BehindSays g n op member cut w := by
  have hb : behind g n op member cut = g := by simp [behind, hn, hf]
  unfold BehindSays
  rw [hb]
  have hGs : Hid ((G g).size = 21) := G_size g
  go_enter Try.func10, Try.ntmps10
  go_wp2_with fail
  with_reducible first | apply gen_wp (w0 := w) | apply gen_list (w0 := w) | apply gen_calls (w0 := w)
  case hb => (repeat (with_reducible first | apply Blocks.alloc | apply Blocks.set | apply Blocks.drew | exact hB | exact Blocks.grow hB hw | exact Blocks.nil _))
  case hg => (repeat (with_reducible first | refine Grow.alloc' ?_ | (refine Grow.set' ?_ (by first | exact Nat.le_refl _ | (simp only []; omega) | (simp; done))) | refine Grow.drew' ?_ | exact hG | exact Grow.trans hG hw | exact Grow.refl _))
  (try clear hw); (try clear hR); (try clear hI); (try clear hZ); (try clear hs0); (try clear hB); (try clear hG)
  intro W hB hG
  try simp (disch := omega) only [List.map_cons, List.map_nil, List.setIfInBounds_toArray, List.set_cons_zero, List.set_cons_succ, World.size_alloc, if_pos, if_neg, if_false, if_true] at hB
  have hR := hB.rules
  simp only [RulesAt] at hR
  have hZ := hB.lts
  simp only [LtsAt] at hZ
  have hs0 := hG.size
  have hI := Grow.refl W
  refine (writer_any _ _).mono ?_
  rintro e w' ⟨rfl, rfl⟩
  rw [hn]
  go_wp2_with fail
  refine (formed_any _ _ _).mono ?_
  rintro e w' ⟨rfl, rfl⟩
  rw [hf]
  go_wp2_with (with_reducible apply stop_load (ty := 28))
  intro _
  with_reducible first | apply gen_wp (w0 := w) | apply gen_list (w0 := w) | apply gen_calls (w0 := w)
  case hb => (repeat (with_reducible first | apply Blocks.alloc | apply Blocks.set | apply Blocks.drew | exact hB | exact Blocks.grow hB hw | exact Blocks.nil _))
  case hg => (repeat (with_reducible first | refine Grow.alloc' ?_ | (refine Grow.set' ?_ (by first | exact Nat.le_refl _ | (simp only []; omega) | (simp; done))) | refine Grow.drew' ?_ | exact hG | exact Grow.trans hG hw | exact Grow.refl _))
  (try clear hw); (try clear hR); (try clear hI); (try clear hZ); (try clear hs0); (try clear hB); (try clear hG)
  intro W hB hG
  try simp (disch := omega) only [List.map_cons, List.map_nil, List.setIfInBounds_toArray, List.set_cons_zero, List.set_cons_succ, World.size_alloc, if_pos, if_neg, if_false, if_true] at hB
  have hR := hB.rules
  simp only [RulesAt] at hR
  have hZ := hB.lts
  simp only [LtsAt] at hZ
  have hs0 := hG.size
  have hI := Grow.refl W
  have hGo := G_one g
  go_wp2_with (with_reducible apply wl_load_rowG (i := 1))
  case hx => rfl
  (try case hg => rfl)
  case hB => first | exact hB | exact hB.grow hw
  case hi => rfl
  case hcs => (first | assumption | rfl | (simp; done) | (simp; assumption))
  case hrow => kernel_rfl
  intro _
  simp only [Act.put]
  go_wp2_with (with_reducible apply wl_store_row2 (i := 0))
  case hx => rfl
  case hy => rfl
  case hB => first | exact hB | exact hB.grow hw
  case hG => first | exact hG | exact hG.trans hw
  case hi => rfl
  case hcl => (first | assumption | rfl | (simp; done) | (simp; assumption))
  case hcs => (first | assumption | rfl | (simp; done) | (simp; assumption))
  case hrow => kernel_rfl
  case h1 => first | assumption | exact all_ints _ _ | simp [Value.oneCell']
  case hb0 => (first | exact Nat.le_refl _ | omega)
  (try clear hw); (try clear hR); (try clear hI); (try clear hZ); (try clear hs0); (try clear hB); (try clear hG)
  intro W hB hG
  try simp (disch := omega) only [List.map_cons, List.map_nil, List.setIfInBounds_toArray, List.set_cons_zero, List.set_cons_succ, World.size_alloc, if_pos, if_neg, if_false, if_true] at hB
  have hR := hB.rules
  simp only [RulesAt] at hR
  have hZ := hB.lts
  simp only [LtsAt] at hZ
  have hs0 := hG.size
  have hI := Grow.refl W
  simp only [Act.put]
  go_wp2
  (try simp only [Exit.inBlock, Exit.then])
  apply post_row (i := 0)
  case hr => rfl
  case hp => rfl
  case hB => first | exact hB | exact hB.grow hw
  case hi => rfl
  case hcs => (first | assumption | rfl | (simp; done) | (simp; assumption))
  case hrow => kernel_rfl
  case hd => rfl
  exact ⟨rfl, hG⟩

theorem behind_5 (g : Grp) (n member cut : Int) (w : World) (hn : isW n = true) (hf : formed 5 member = true) : BehindSays g n 5 member cut w := by
  unfold BehindSays
  rw [behind_eq hn hf]
  have hGs : Hid ((G g).size = 21) := G_size g
  go_enter Try.func10, Try.ntmps10
  go_wp2_with fail
  with_reducible first | apply gen_wp (w0 := w) | apply gen_list (w0 := w) | apply gen_calls (w0 := w)
  case hb => (repeat (with_reducible first | apply Blocks.alloc | apply Blocks.set | apply Blocks.drew | exact hB | exact Blocks.grow hB hw | exact Blocks.nil _))
  case hg => (repeat (with_reducible first | refine Grow.alloc' ?_ | (refine Grow.set' ?_ (by first | exact Nat.le_refl _ | (simp only []; omega) | (simp; done))) | refine Grow.drew' ?_ | exact hG | exact Grow.trans hG hw | exact Grow.refl _))
  (try clear hw); (try clear hR); (try clear hI); (try clear hZ); (try clear hs0); (try clear hB); (try clear hG)
  intro W hB hG
  try simp (disch := omega) only [List.map_cons, List.map_nil, List.setIfInBounds_toArray, List.set_cons_zero, List.set_cons_succ, World.size_alloc, if_pos, if_neg, if_false, if_true] at hB
  have hR := hB.rules
  simp only [RulesAt] at hR
  have hZ := hB.lts
  simp only [LtsAt] at hZ
  have hs0 := hG.size
  have hI := Grow.refl W
  refine (writer_any _ _).mono ?_
  rintro e w' ⟨rfl, rfl⟩
  rw [hn]
  go_wp2_with fail
  refine (formed_any _ _ _).mono ?_
  rintro e w' ⟨rfl, rfl⟩
  rw [hf]
  go_wp2_with (with_reducible apply stop_load (ty := 28))
  intro _
  with_reducible first | apply gen_wp (w0 := w) | apply gen_list (w0 := w) | apply gen_calls (w0 := w)
  case hb => (repeat (with_reducible first | apply Blocks.alloc | apply Blocks.set | apply Blocks.drew | exact hB | exact Blocks.grow hB hw | exact Blocks.nil _))
  case hg => (repeat (with_reducible first | refine Grow.alloc' ?_ | (refine Grow.set' ?_ (by first | exact Nat.le_refl _ | (simp only []; omega) | (simp; done))) | refine Grow.drew' ?_ | exact hG | exact Grow.trans hG hw | exact Grow.refl _))
  (try clear hw); (try clear hR); (try clear hI); (try clear hZ); (try clear hs0); (try clear hB); (try clear hG)
  intro W hB hG
  try simp (disch := omega) only [List.map_cons, List.map_nil, List.setIfInBounds_toArray, List.set_cons_zero, List.set_cons_succ, World.size_alloc, if_pos, if_neg, if_false, if_true] at hB
  have hR := hB.rules
  simp only [RulesAt] at hR
  have hZ := hB.lts
  simp only [LtsAt] at hZ
  have hs0 := hG.size
  have hI := Grow.refl W
  have hGo := G_one (afterOp g n 5 member cut)
  have hGb : Hid ((G (afterOp g n 5 member cut)).size = 21) := G_size _
  replace hB : Blocks W [_, (w.heap.size, G (afterOp g n 5 member cut), 28)] := hB
  try simp (disch := omega) only [List.map_cons, List.map_nil, List.setIfInBounds_toArray, List.set_cons_zero, List.set_cons_succ, World.size_alloc, if_pos, if_neg, if_false, if_true] at hB
  have hR := hB.rules
  simp only [RulesAt] at hR
  have hZ := hB.lts
  simp only [LtsAt] at hZ
  have hs0 := hG.size
  have hI := Grow.refl W
  go_wp2_with (with_reducible apply wl_load_rowG (i := 1))
  case hx => rfl
  (try case hg => rfl)
  case hB => first | exact hB | exact hB.grow hw
  case hi => rfl
  case hcs => (first | assumption | rfl | (simp; done) | (simp; assumption))
  case hrow => kernel_rfl
  intro _
  simp only [Act.put]
  go_wp2_with (with_reducible apply wl_store_row2 (i := 0))
  case hx => rfl
  case hy => rfl
  case hB => first | exact hB | exact hB.grow hw
  case hG => first | exact hG | exact hG.trans hw
  case hi => rfl
  case hcl => (first | assumption | rfl | (simp; done) | (simp; assumption))
  case hcs => (first | assumption | rfl | (simp; done) | (simp; assumption))
  case hrow => kernel_rfl
  case h1 => first | assumption | exact all_ints _ _ | simp [Value.oneCell']
  case hb0 => (first | exact Nat.le_refl _ | omega)
  (try clear hw); (try clear hR); (try clear hI); (try clear hZ); (try clear hs0); (try clear hB); (try clear hG)
  intro W hB hG
  try simp (disch := omega) only [List.map_cons, List.map_nil, List.setIfInBounds_toArray, List.set_cons_zero, List.set_cons_succ, World.size_alloc, if_pos, if_neg, if_false, if_true] at hB
  have hR := hB.rules
  simp only [RulesAt] at hR
  have hZ := hB.lts
  simp only [LtsAt] at hZ
  have hs0 := hG.size
  have hI := Grow.refl W
  simp only [Act.put]
  go_wp2
  (try simp only [Exit.inBlock, Exit.then])
  apply post_row (i := 0)
  case hr => rfl
  case hp => rfl
  case hB => first | exact hB | exact hB.grow hw
  case hi => rfl
  case hcs => (first | assumption | rfl | (simp; done) | (simp; assumption))
  case hrow => kernel_rfl
  case hd => rfl
  exact ⟨rfl, hG⟩

theorem behind_4 (g : Grp) (n member cut : Int) (w : World) (hn : isW n = true) (hf : formed 4 member = true) : BehindSays g n 4 member cut w := by
  unfold BehindSays
  rw [behind_eq hn hf]
  have hGs : Hid ((G g).size = 21) := G_size g
  go_enter Try.func10, Try.ntmps10
  go_wp2_with fail
  with_reducible first | apply gen_wp (w0 := w) | apply gen_list (w0 := w) | apply gen_calls (w0 := w)
  case hb => (repeat (with_reducible first | apply Blocks.alloc | apply Blocks.set | apply Blocks.drew | exact hB | exact Blocks.grow hB hw | exact Blocks.nil _))
  case hg => (repeat (with_reducible first | refine Grow.alloc' ?_ | (refine Grow.set' ?_ (by first | exact Nat.le_refl _ | (simp only []; omega) | (simp; done))) | refine Grow.drew' ?_ | exact hG | exact Grow.trans hG hw | exact Grow.refl _))
  (try clear hw); (try clear hR); (try clear hI); (try clear hZ); (try clear hs0); (try clear hB); (try clear hG)
  intro W hB hG
  try simp (disch := omega) only [List.map_cons, List.map_nil, List.setIfInBounds_toArray, List.set_cons_zero, List.set_cons_succ, World.size_alloc, if_pos, if_neg, if_false, if_true] at hB
  have hR := hB.rules
  simp only [RulesAt] at hR
  have hZ := hB.lts
  simp only [LtsAt] at hZ
  have hs0 := hG.size
  have hI := Grow.refl W
  refine (writer_any _ _).mono ?_
  rintro e w' ⟨rfl, rfl⟩
  rw [hn]
  go_wp2_with fail
  refine (formed_any _ _ _).mono ?_
  rintro e w' ⟨rfl, rfl⟩
  rw [hf]
  go_wp2_with (with_reducible apply stop_load (ty := 28))
  intro _
  with_reducible first | apply gen_wp (w0 := w) | apply gen_list (w0 := w) | apply gen_calls (w0 := w)
  case hb => (repeat (with_reducible first | apply Blocks.alloc | apply Blocks.set | apply Blocks.drew | exact hB | exact Blocks.grow hB hw | exact Blocks.nil _))
  case hg => (repeat (with_reducible first | refine Grow.alloc' ?_ | (refine Grow.set' ?_ (by first | exact Nat.le_refl _ | (simp only []; omega) | (simp; done))) | refine Grow.drew' ?_ | exact hG | exact Grow.trans hG hw | exact Grow.refl _))
  (try clear hw); (try clear hR); (try clear hI); (try clear hZ); (try clear hs0); (try clear hB); (try clear hG)
  intro W hB hG
  try simp (disch := omega) only [List.map_cons, List.map_nil, List.setIfInBounds_toArray, List.set_cons_zero, List.set_cons_succ, World.size_alloc, if_pos, if_neg, if_false, if_true] at hB
  have hR := hB.rules
  simp only [RulesAt] at hR
  have hZ := hB.lts
  simp only [LtsAt] at hZ
  have hs0 := hG.size
  have hI := Grow.refl W
  have hGo := G_one (afterOp g n 4 member cut)
  have hGb : Hid ((G (afterOp g n 4 member cut)).size = 21) := G_size _
  replace hB : Blocks W [_, (w.heap.size, G (afterOp g n 4 member cut), 28)] := hB
  try simp (disch := omega) only [List.map_cons, List.map_nil, List.setIfInBounds_toArray, List.set_cons_zero, List.set_cons_succ, World.size_alloc, if_pos, if_neg, if_false, if_true] at hB
  have hR := hB.rules
  simp only [RulesAt] at hR
  have hZ := hB.lts
  simp only [LtsAt] at hZ
  have hs0 := hG.size
  have hI := Grow.refl W
  go_wp2_with (with_reducible apply wl_load_rowG (i := 1))
  case hx => rfl
  (try case hg => rfl)
  case hB => first | exact hB | exact hB.grow hw
  case hi => rfl
  case hcs => (first | assumption | rfl | (simp; done) | (simp; assumption))
  case hrow => kernel_rfl
  intro _
  simp only [Act.put]
  go_wp2_with (with_reducible apply wl_store_row2 (i := 0))
  case hx => rfl
  case hy => rfl
  case hB => first | exact hB | exact hB.grow hw
  case hG => first | exact hG | exact hG.trans hw
  case hi => rfl
  case hcl => (first | assumption | rfl | (simp; done) | (simp; assumption))
  case hcs => (first | assumption | rfl | (simp; done) | (simp; assumption))
  case hrow => kernel_rfl
  case h1 => first | assumption | exact all_ints _ _ | simp [Value.oneCell']
  case hb0 => (first | exact Nat.le_refl _ | omega)
  (try clear hw); (try clear hR); (try clear hI); (try clear hZ); (try clear hs0); (try clear hB); (try clear hG)
  intro W hB hG
  try simp (disch := omega) only [List.map_cons, List.map_nil, List.setIfInBounds_toArray, List.set_cons_zero, List.set_cons_succ, World.size_alloc, if_pos, if_neg, if_false, if_true] at hB
  have hR := hB.rules
  simp only [RulesAt] at hR
  have hZ := hB.lts
  simp only [LtsAt] at hZ
  have hs0 := hG.size
  have hI := Grow.refl W
  simp only [Act.put]
  go_wp2
  (try simp only [Exit.inBlock, Exit.then])
  apply post_row (i := 0)
  case hr => rfl
  case hp => rfl
  case hB => first | exact hB | exact hB.grow hw
  case hi => rfl
  case hcs => (first | assumption | rfl | (simp; done) | (simp; assumption))
  case hrow => kernel_rfl
  case hd => rfl
  exact ⟨rfl, hG⟩

theorem behind_1_1 (g : Grp) (member cut : Int) (w : World) (hn : isW 1 = true) (hf : formed 1 member = true) : BehindSays g 1 1 member cut w := by
  unfold BehindSays
  rw [behind_eq hn hf]
  have hGs : Hid ((G g).size = 21) := G_size g
  go_enter Try.func10, Try.ntmps10
  go_wp2_with fail
  with_reducible first | apply gen_wp (w0 := w) | apply gen_list (w0 := w) | apply gen_calls (w0 := w)
  case hb => (repeat (with_reducible first | apply Blocks.alloc | apply Blocks.set | apply Blocks.drew | exact hB | exact Blocks.grow hB hw | exact Blocks.nil _))
  case hg => (repeat (with_reducible first | refine Grow.alloc' ?_ | (refine Grow.set' ?_ (by first | exact Nat.le_refl _ | (simp only []; omega) | (simp; done))) | refine Grow.drew' ?_ | exact hG | exact Grow.trans hG hw | exact Grow.refl _))
  (try clear hw); (try clear hR); (try clear hI); (try clear hZ); (try clear hs0); (try clear hB); (try clear hG)
  intro W hB hG
  try simp (disch := omega) only [List.map_cons, List.map_nil, List.setIfInBounds_toArray, List.set_cons_zero, List.set_cons_succ, World.size_alloc, if_pos, if_neg, if_false, if_true] at hB
  have hR := hB.rules
  simp only [RulesAt] at hR
  have hZ := hB.lts
  simp only [LtsAt] at hZ
  have hs0 := hG.size
  have hI := Grow.refl W
  refine (writer_any _ _).mono ?_
  rintro e w' ⟨rfl, rfl⟩
  rw [hn]
  go_wp2_with fail
  refine (formed_any _ _ _).mono ?_
  rintro e w' ⟨rfl, rfl⟩
  rw [hf]
  go_wp2_with (with_reducible apply stop_load (ty := 28))
  intro _
  with_reducible first | apply gen_wp (w0 := w) | apply gen_list (w0 := w) | apply gen_calls (w0 := w)
  case hb => (repeat (with_reducible first | apply Blocks.alloc | apply Blocks.set | apply Blocks.drew | exact hB | exact Blocks.grow hB hw | exact Blocks.nil _))
  case hg => (repeat (with_reducible first | refine Grow.alloc' ?_ | (refine Grow.set' ?_ (by first | exact Nat.le_refl _ | (simp only []; omega) | (simp; done))) | refine Grow.drew' ?_ | exact hG | exact Grow.trans hG hw | exact Grow.refl _))
  (try clear hw); (try clear hR); (try clear hI); (try clear hZ); (try clear hs0); (try clear hB); (try clear hG)
  intro W hB hG
  try simp (disch := omega) only [List.map_cons, List.map_nil, List.setIfInBounds_toArray, List.set_cons_zero, List.set_cons_succ, World.size_alloc, if_pos, if_neg, if_false, if_true] at hB
  have hR := hB.rules
  simp only [RulesAt] at hR
  have hZ := hB.lts
  simp only [LtsAt] at hZ
  have hs0 := hG.size
  have hI := Grow.refl W
  have hGo := G_one (afterOp g 1 1 member cut)
  have hGb : Hid ((G (afterOp g 1 1 member cut)).size = 21) := G_size _
  replace hB : Blocks W [_, (w.heap.size, G (afterOp g 1 1 member cut), 28)] := hB
  try simp (disch := omega) only [List.map_cons, List.map_nil, List.setIfInBounds_toArray, List.set_cons_zero, List.set_cons_succ, World.size_alloc, if_pos, if_neg, if_false, if_true] at hB
  have hR := hB.rules
  simp only [RulesAt] at hR
  have hZ := hB.lts
  simp only [LtsAt] at hZ
  have hs0 := hG.size
  have hI := Grow.refl W
  go_wp2_with (with_reducible apply wl_load_rowG (i := 1))
  case hx => rfl
  (try case hg => rfl)
  case hB => first | exact hB | exact hB.grow hw
  case hi => rfl
  case hcs => (first | assumption | rfl | (simp; done) | (simp; assumption))
  case hrow => kernel_rfl
  intro _
  simp only [Act.put]
  go_wp2_with (with_reducible apply wl_store_row2 (i := 0))
  case hx => rfl
  case hy => rfl
  case hB => first | exact hB | exact hB.grow hw
  case hG => first | exact hG | exact hG.trans hw
  case hi => rfl
  case hcl => (first | assumption | rfl | (simp; done) | (simp; assumption))
  case hcs => (first | assumption | rfl | (simp; done) | (simp; assumption))
  case hrow => kernel_rfl
  case h1 => first | assumption | exact all_ints _ _ | simp [Value.oneCell']
  case hb0 => (first | exact Nat.le_refl _ | omega)
  (try clear hw); (try clear hR); (try clear hI); (try clear hZ); (try clear hs0); (try clear hB); (try clear hG)
  intro W hB hG
  try simp (disch := omega) only [List.map_cons, List.map_nil, List.setIfInBounds_toArray, List.set_cons_zero, List.set_cons_succ, World.size_alloc, if_pos, if_neg, if_false, if_true] at hB
  have hR := hB.rules
  simp only [RulesAt] at hR
  have hZ := hB.lts
  simp only [LtsAt] at hZ
  have hs0 := hG.size
  have hI := Grow.refl W
  simp only [Act.put]
  go_wp2
  (try simp only [Exit.inBlock, Exit.then])
  apply post_row (i := 0)
  case hr => rfl
  case hp => rfl
  case hB => first | exact hB | exact hB.grow hw
  case hi => rfl
  case hcs => (first | assumption | rfl | (simp; done) | (simp; assumption))
  case hrow => kernel_rfl
  case hd => rfl
  exact ⟨rfl, hG⟩

theorem behind_2_1 (g : Grp) (n cut : Int) (w : World) (hn : isW n = true) (hf : formed 2 1 = true) : BehindSays g n 2 1 cut w := by
  unfold BehindSays
  rw [behind_eq hn hf]
  have hGs : Hid ((G g).size = 21) := G_size g
  go_enter Try.func10, Try.ntmps10
  go_wp2_with fail
  with_reducible first | apply gen_wp (w0 := w) | apply gen_list (w0 := w) | apply gen_calls (w0 := w)
  case hb => (repeat (with_reducible first | apply Blocks.alloc | apply Blocks.set | apply Blocks.drew | exact hB | exact Blocks.grow hB hw | exact Blocks.nil _))
  case hg => (repeat (with_reducible first | refine Grow.alloc' ?_ | (refine Grow.set' ?_ (by first | exact Nat.le_refl _ | (simp only []; omega) | (simp; done))) | refine Grow.drew' ?_ | exact hG | exact Grow.trans hG hw | exact Grow.refl _))
  (try clear hw); (try clear hR); (try clear hI); (try clear hZ); (try clear hs0); (try clear hB); (try clear hG)
  intro W hB hG
  try simp (disch := omega) only [List.map_cons, List.map_nil, List.setIfInBounds_toArray, List.set_cons_zero, List.set_cons_succ, World.size_alloc, if_pos, if_neg, if_false, if_true] at hB
  have hR := hB.rules
  simp only [RulesAt] at hR
  have hZ := hB.lts
  simp only [LtsAt] at hZ
  have hs0 := hG.size
  have hI := Grow.refl W
  refine (writer_any _ _).mono ?_
  rintro e w' ⟨rfl, rfl⟩
  rw [hn]
  go_wp2_with fail
  refine (formed_any _ _ _).mono ?_
  rintro e w' ⟨rfl, rfl⟩
  rw [hf]
  go_wp2_with (with_reducible apply stop_load (ty := 28))
  intro _
  with_reducible first | apply gen_wp (w0 := w) | apply gen_list (w0 := w) | apply gen_calls (w0 := w)
  case hb => (repeat (with_reducible first | apply Blocks.alloc | apply Blocks.set | apply Blocks.drew | exact hB | exact Blocks.grow hB hw | exact Blocks.nil _))
  case hg => (repeat (with_reducible first | refine Grow.alloc' ?_ | (refine Grow.set' ?_ (by first | exact Nat.le_refl _ | (simp only []; omega) | (simp; done))) | refine Grow.drew' ?_ | exact hG | exact Grow.trans hG hw | exact Grow.refl _))
  (try clear hw); (try clear hR); (try clear hI); (try clear hZ); (try clear hs0); (try clear hB); (try clear hG)
  intro W hB hG
  try simp (disch := omega) only [List.map_cons, List.map_nil, List.setIfInBounds_toArray, List.set_cons_zero, List.set_cons_succ, World.size_alloc, if_pos, if_neg, if_false, if_true] at hB
  have hR := hB.rules
  simp only [RulesAt] at hR
  have hZ := hB.lts
  simp only [LtsAt] at hZ
  have hs0 := hG.size
  have hI := Grow.refl W
  have hGo := G_one (afterOp g n 2 1 cut)
  have hGb : Hid ((G (afterOp g n 2 1 cut)).size = 21) := G_size _
  replace hB : Blocks W [_, (w.heap.size, G (afterOp g n 2 1 cut), 28)] := hB
  try simp (disch := omega) only [List.map_cons, List.map_nil, List.setIfInBounds_toArray, List.set_cons_zero, List.set_cons_succ, World.size_alloc, if_pos, if_neg, if_false, if_true] at hB
  have hR := hB.rules
  simp only [RulesAt] at hR
  have hZ := hB.lts
  simp only [LtsAt] at hZ
  have hs0 := hG.size
  have hI := Grow.refl W
  go_wp2_with (with_reducible apply wl_load_rowG (i := 1))
  case hx => rfl
  (try case hg => rfl)
  case hB => first | exact hB | exact hB.grow hw
  case hi => rfl
  case hcs => (first | assumption | rfl | (simp; done) | (simp; assumption))
  case hrow => kernel_rfl
  intro _
  simp only [Act.put]
  go_wp2_with (with_reducible apply wl_store_row2 (i := 0))
  case hx => rfl
  case hy => rfl
  case hB => first | exact hB | exact hB.grow hw
  case hG => first | exact hG | exact hG.trans hw
  case hi => rfl
  case hcl => (first | assumption | rfl | (simp; done) | (simp; assumption))
  case hcs => (first | assumption | rfl | (simp; done) | (simp; assumption))
  case hrow => kernel_rfl
  case h1 => first | assumption | exact all_ints _ _ | simp [Value.oneCell']
  case hb0 => (first | exact Nat.le_refl _ | omega)
  (try clear hw); (try clear hR); (try clear hI); (try clear hZ); (try clear hs0); (try clear hB); (try clear hG)
  intro W hB hG
  try simp (disch := omega) only [List.map_cons, List.map_nil, List.setIfInBounds_toArray, List.set_cons_zero, List.set_cons_succ, World.size_alloc, if_pos, if_neg, if_false, if_true] at hB
  have hR := hB.rules
  simp only [RulesAt] at hR
  have hZ := hB.lts
  simp only [LtsAt] at hZ
  have hs0 := hG.size
  have hI := Grow.refl W
  simp only [Act.put]
  go_wp2
  (try simp only [Exit.inBlock, Exit.then])
  apply post_row (i := 0)
  case hr => rfl
  case hp => rfl
  case hB => first | exact hB | exact hB.grow hw
  case hi => rfl
  case hcs => (first | assumption | rfl | (simp; done) | (simp; assumption))
  case hrow => kernel_rfl
  case hd => rfl
  exact ⟨rfl, hG⟩

theorem behind_3_1 (g : Grp) (n cut : Int) (w : World) (hn : isW n = true) (hf : formed 3 1 = true) : BehindSays g n 3 1 cut w := by
  unfold BehindSays
  rw [behind_eq hn hf]
  have hGs : Hid ((G g).size = 21) := G_size g
  go_enter Try.func10, Try.ntmps10
  go_wp2_with fail
  with_reducible first | apply gen_wp (w0 := w) | apply gen_list (w0 := w) | apply gen_calls (w0 := w)
  case hb => (repeat (with_reducible first | apply Blocks.alloc | apply Blocks.set | apply Blocks.drew | exact hB | exact Blocks.grow hB hw | exact Blocks.nil _))
  case hg => (repeat (with_reducible first | refine Grow.alloc' ?_ | (refine Grow.set' ?_ (by first | exact Nat.le_refl _ | (simp only []; omega) | (simp; done))) | refine Grow.drew' ?_ | exact hG | exact Grow.trans hG hw | exact Grow.refl _))
  (try clear hw); (try clear hR); (try clear hI); (try clear hZ); (try clear hs0); (try clear hB); (try clear hG)
  intro W hB hG
  try simp (disch := omega) only [List.map_cons, List.map_nil, List.setIfInBounds_toArray, List.set_cons_zero, List.set_cons_succ, World.size_alloc, if_pos, if_neg, if_false, if_true] at hB
  have hR := hB.rules
  simp only [RulesAt] at hR
  have hZ := hB.lts
  simp only [LtsAt] at hZ
  have hs0 := hG.size
  have hI := Grow.refl W
  refine (writer_any _ _).mono ?_
  rintro e w' ⟨rfl, rfl⟩
  rw [hn]
  go_wp2_with fail
  refine (formed_any _ _ _).mono ?_
  rintro e w' ⟨rfl, rfl⟩
  rw [hf]
  go_wp2_with (with_reducible apply stop_load (ty := 28))
  intro _
  with_reducible first | apply gen_wp (w0 := w) | apply gen_list (w0 := w) | apply gen_calls (w0 := w)
  case hb => (repeat (with_reducible first | apply Blocks.alloc | apply Blocks.set | apply Blocks.drew | exact hB | exact Blocks.grow hB hw | exact Blocks.nil _))
  case hg => (repeat (with_reducible first | refine Grow.alloc' ?_ | (refine Grow.set' ?_ (by first | exact Nat.le_refl _ | (simp only []; omega) | (simp; done))) | refine Grow.drew' ?_ | exact hG | exact Grow.trans hG hw | exact Grow.refl _))
  (try clear hw); (try clear hR); (try clear hI); (try clear hZ); (try clear hs0); (try clear hB); (try clear hG)
  intro W hB hG
  try simp (disch := omega) only [List.map_cons, List.map_nil, List.setIfInBounds_toArray, List.set_cons_zero, List.set_cons_succ, World.size_alloc, if_pos, if_neg, if_false, if_true] at hB
  have hR := hB.rules
  simp only [RulesAt] at hR
  have hZ := hB.lts
  simp only [LtsAt] at hZ
  have hs0 := hG.size
  have hI := Grow.refl W
  have hGo := G_one (afterOp g n 3 1 cut)
  have hGb : Hid ((G (afterOp g n 3 1 cut)).size = 21) := G_size _
  replace hB : Blocks W [_, (w.heap.size, G (afterOp g n 3 1 cut), 28)] := hB
  try simp (disch := omega) only [List.map_cons, List.map_nil, List.setIfInBounds_toArray, List.set_cons_zero, List.set_cons_succ, World.size_alloc, if_pos, if_neg, if_false, if_true] at hB
  have hR := hB.rules
  simp only [RulesAt] at hR
  have hZ := hB.lts
  simp only [LtsAt] at hZ
  have hs0 := hG.size
  have hI := Grow.refl W
  go_wp2_with (with_reducible apply wl_load_rowG (i := 1))
  case hx => rfl
  (try case hg => rfl)
  case hB => first | exact hB | exact hB.grow hw
  case hi => rfl
  case hcs => (first | assumption | rfl | (simp; done) | (simp; assumption))
  case hrow => kernel_rfl
  intro _
  simp only [Act.put]
  go_wp2_with (with_reducible apply wl_store_row2 (i := 0))
  case hx => rfl
  case hy => rfl
  case hB => first | exact hB | exact hB.grow hw
  case hG => first | exact hG | exact hG.trans hw
  case hi => rfl
  case hcl => (first | assumption | rfl | (simp; done) | (simp; assumption))
  case hcs => (first | assumption | rfl | (simp; done) | (simp; assumption))
  case hrow => kernel_rfl
  case h1 => first | assumption | exact all_ints _ _ | simp [Value.oneCell']
  case hb0 => (first | exact Nat.le_refl _ | omega)
  (try clear hw); (try clear hR); (try clear hI); (try clear hZ); (try clear hs0); (try clear hB); (try clear hG)
  intro W hB hG
  try simp (disch := omega) only [List.map_cons, List.map_nil, List.setIfInBounds_toArray, List.set_cons_zero, List.set_cons_succ, World.size_alloc, if_pos, if_neg, if_false, if_true] at hB
  have hR := hB.rules
  simp only [RulesAt] at hR
  have hZ := hB.lts
  simp only [LtsAt] at hZ
  have hs0 := hG.size
  have hI := Grow.refl W
  simp only [Act.put]
  go_wp2
  (try simp only [Exit.inBlock, Exit.then])
  apply post_row (i := 0)
  case hr => rfl
  case hp => rfl
  case hB => first | exact hB | exact hB.grow hw
  case hi => rfl
  case hcs => (first | assumption | rfl | (simp; done) | (simp; assumption))
  case hrow => kernel_rfl
  case hd => rfl
  exact ⟨rfl, hG⟩

theorem behind_1_2 (g : Grp) (member cut : Int) (w : World) (hn : isW 2 = true) (hf : formed 1 member = true) : BehindSays g 2 1 member cut w := by
  unfold BehindSays
  rw [behind_eq hn hf]
  have hGs : Hid ((G g).size = 21) := G_size g
  go_enter Try.func10, Try.ntmps10
  go_wp2_with fail
  with_reducible first | apply gen_wp (w0 := w) | apply gen_list (w0 := w) | apply gen_calls (w0 := w)
  case hb => (repeat (with_reducible first | apply Blocks.alloc | apply Blocks.set | apply Blocks.drew | exact hB | exact Blocks.grow hB hw | exact Blocks.nil _))
  case hg => (repeat (with_reducible first | refine Grow.alloc' ?_ | (refine Grow.set' ?_ (by first | exact Nat.le_refl _ | (simp only []; omega) | (simp; done))) | refine Grow.drew' ?_ | exact hG | exact Grow.trans hG hw | exact Grow.refl _))
  (try clear hw); (try clear hR); (try clear hI); (try clear hZ); (try clear hs0); (try clear hB); (try clear hG)
  intro W hB hG
  try simp (disch := omega) only [List.map_cons, List.map_nil, List.setIfInBounds_toArray, List.set_cons_zero, List.set_cons_succ, World.size_alloc, if_pos, if_neg, if_false, if_true] at hB
  have hR := hB.rules
  simp only [RulesAt] at hR
  have hZ := hB.lts
  simp only [LtsAt] at hZ
  have hs0 := hG.size
  have hI := Grow.refl W
  refine (writer_any _ _).mono ?_
  rintro e w' ⟨rfl, rfl⟩
  rw [hn]
  go_wp2_with fail
  refine (formed_any _ _ _).mono ?_
  rintro e w' ⟨rfl, rfl⟩
  rw [hf]
  go_wp2_with (with_reducible apply stop_load (ty := 28))
  intro _
  with_reducible first | apply gen_wp (w0 := w) | apply gen_list (w0 := w) | apply gen_calls (w0 := w)
  case hb => (repeat (with_reducible first | apply Blocks.alloc | apply Blocks.set | apply Blocks.drew | exact hB | exact Blocks.grow hB hw | exact Blocks.nil _))
  case hg => (repeat (with_reducible first | refine Grow.alloc' ?_ | (refine Grow.set' ?_ (by first | exact Nat.le_refl _ | (simp only []; omega) | (simp; done))) | refine Grow.drew' ?_ | exact hG | exact Grow.trans hG hw | exact Grow.refl _))
  (try clear hw); (try clear hR); (try clear hI); (try clear hZ); (try clear hs0); (try clear hB); (try clear hG)
  intro W hB hG
  try simp (disch := omega) only [List.map_cons, List.map_nil, List.setIfInBounds_toArray, List.set_cons_zero, List.set_cons_succ, World.size_alloc, if_pos, if_neg, if_false, if_true] at hB
  have hR := hB.rules
  simp only [RulesAt] at hR
  have hZ := hB.lts
  simp only [LtsAt] at hZ
  have hs0 := hG.size
  have hI := Grow.refl W
  have hGo := G_one (afterOp g 2 1 member cut)
  have hGb : Hid ((G (afterOp g 2 1 member cut)).size = 21) := G_size _
  replace hB : Blocks W [_, (w.heap.size, G (afterOp g 2 1 member cut), 28)] := hB
  try simp (disch := omega) only [List.map_cons, List.map_nil, List.setIfInBounds_toArray, List.set_cons_zero, List.set_cons_succ, World.size_alloc, if_pos, if_neg, if_false, if_true] at hB
  have hR := hB.rules
  simp only [RulesAt] at hR
  have hZ := hB.lts
  simp only [LtsAt] at hZ
  have hs0 := hG.size
  have hI := Grow.refl W
  go_wp2_with (with_reducible apply wl_load_rowG (i := 1))
  case hx => rfl
  (try case hg => rfl)
  case hB => first | exact hB | exact hB.grow hw
  case hi => rfl
  case hcs => (first | assumption | rfl | (simp; done) | (simp; assumption))
  case hrow => kernel_rfl
  intro _
  simp only [Act.put]
  go_wp2_with (with_reducible apply wl_store_row2 (i := 0))
  case hx => rfl
  case hy => rfl
  case hB => first | exact hB | exact hB.grow hw
  case hG => first | exact hG | exact hG.trans hw
  case hi => rfl
  case hcl => (first | assumption | rfl | (simp; done) | (simp; assumption))
  case hcs => (first | assumption | rfl | (simp; done) | (simp; assumption))
  case hrow => kernel_rfl
  case h1 => first | assumption | exact all_ints _ _ | simp [Value.oneCell']
  case hb0 => (first | exact Nat.le_refl _ | omega)
  (try clear hw); (try clear hR); (try clear hI); (try clear hZ); (try clear hs0); (try clear hB); (try clear hG)
  intro W hB hG
  try simp (disch := omega) only [List.map_cons, List.map_nil, List.setIfInBounds_toArray, List.set_cons_zero, List.set_cons_succ, World.size_alloc, if_pos, if_neg, if_false, if_true] at hB
  have hR := hB.rules
  simp only [RulesAt] at hR
  have hZ := hB.lts
  simp only [LtsAt] at hZ
  have hs0 := hG.size
  have hI := Grow.refl W
  simp only [Act.put]
  go_wp2
  (try simp only [Exit.inBlock, Exit.then])
  apply post_row (i := 0)
  case hr => rfl
  case hp => rfl
  case hB => first | exact hB | exact hB.grow hw
  case hi => rfl
  case hcs => (first | assumption | rfl | (simp; done) | (simp; assumption))
  case hrow => kernel_rfl
  case hd => rfl
  exact ⟨rfl, hG⟩

theorem behind_2_2 (g : Grp) (n cut : Int) (w : World) (hn : isW n = true) (hf : formed 2 2 = true) : BehindSays g n 2 2 cut w := by
  unfold BehindSays
  rw [behind_eq hn hf]
  have hGs : Hid ((G g).size = 21) := G_size g
  go_enter Try.func10, Try.ntmps10
  go_wp2_with fail
  with_reducible first | apply gen_wp (w0 := w) | apply gen_list (w0 := w) | apply gen_calls (w0 := w)
  case hb => (repeat (with_reducible first | apply Blocks.alloc | apply Blocks.set | apply Blocks.drew | exact hB | exact Blocks.grow hB hw | exact Blocks.nil _))
  case hg => (repeat (with_reducible first | refine Grow.alloc' ?_ | (refine Grow.set' ?_ (by first | exact Nat.le_refl _ | (simp only []; omega) | (simp; done))) | refine Grow.drew' ?_ | exact hG | exact Grow.trans hG hw | exact Grow.refl _))
  (try clear hw); (try clear hR); (try clear hI); (try clear hZ); (try clear hs0); (try clear hB); (try clear hG)
  intro W hB hG
  try simp (disch := omega) only [List.map_cons, List.map_nil, List.setIfInBounds_toArray, List.set_cons_zero, List.set_cons_succ, World.size_alloc, if_pos, if_neg, if_false, if_true] at hB
  have hR := hB.rules
  simp only [RulesAt] at hR
  have hZ := hB.lts
  simp only [LtsAt] at hZ
  have hs0 := hG.size
  have hI := Grow.refl W
  refine (writer_any _ _).mono ?_
  rintro e w' ⟨rfl, rfl⟩
  rw [hn]
  go_wp2_with fail
  refine (formed_any _ _ _).mono ?_
  rintro e w' ⟨rfl, rfl⟩
  rw [hf]
  go_wp2_with (with_reducible apply stop_load (ty := 28))
  intro _
  with_reducible first | apply gen_wp (w0 := w) | apply gen_list (w0 := w) | apply gen_calls (w0 := w)
  case hb => (repeat (with_reducible first | apply Blocks.alloc | apply Blocks.set | apply Blocks.drew | exact hB | exact Blocks.grow hB hw | exact Blocks.nil _))
  case hg => (repeat (with_reducible first | refine Grow.alloc' ?_ | (refine Grow.set' ?_ (by first | exact Nat.le_refl _ | (simp only []; omega) | (simp; done))) | refine Grow.drew' ?_ | exact hG | exact Grow.trans hG hw | exact Grow.refl _))
  (try clear hw); (try clear hR); (try clear hI); (try clear hZ); (try clear hs0); (try clear hB); (try clear hG)
  intro W hB hG
  try simp (disch := omega) only [List.map_cons, List.map_nil, List.setIfInBounds_toArray, List.set_cons_zero, List.set_cons_succ, World.size_alloc, if_pos, if_neg, if_false, if_true] at hB
  have hR := hB.rules
  simp only [RulesAt] at hR
  have hZ := hB.lts
  simp only [LtsAt] at hZ
  have hs0 := hG.size
  have hI := Grow.refl W
  have hGo := G_one (afterOp g n 2 2 cut)
  have hGb : Hid ((G (afterOp g n 2 2 cut)).size = 21) := G_size _
  replace hB : Blocks W [_, (w.heap.size, G (afterOp g n 2 2 cut), 28)] := hB
  try simp (disch := omega) only [List.map_cons, List.map_nil, List.setIfInBounds_toArray, List.set_cons_zero, List.set_cons_succ, World.size_alloc, if_pos, if_neg, if_false, if_true] at hB
  have hR := hB.rules
  simp only [RulesAt] at hR
  have hZ := hB.lts
  simp only [LtsAt] at hZ
  have hs0 := hG.size
  have hI := Grow.refl W
  go_wp2_with (with_reducible apply wl_load_rowG (i := 1))
  case hx => rfl
  (try case hg => rfl)
  case hB => first | exact hB | exact hB.grow hw
  case hi => rfl
  case hcs => (first | assumption | rfl | (simp; done) | (simp; assumption))
  case hrow => kernel_rfl
  intro _
  simp only [Act.put]
  go_wp2_with (with_reducible apply wl_store_row2 (i := 0))
  case hx => rfl
  case hy => rfl
  case hB => first | exact hB | exact hB.grow hw
  case hG => first | exact hG | exact hG.trans hw
  case hi => rfl
  case hcl => (first | assumption | rfl | (simp; done) | (simp; assumption))
  case hcs => (first | assumption | rfl | (simp; done) | (simp; assumption))
  case hrow => kernel_rfl
  case h1 => first | assumption | exact all_ints _ _ | simp [Value.oneCell']
  case hb0 => (first | exact Nat.le_refl _ | omega)
  (try clear hw); (try clear hR); (try clear hI); (try clear hZ); (try clear hs0); (try clear hB); (try clear hG)
  intro W hB hG
  try simp (disch := omega) only [List.map_cons, List.map_nil, List.setIfInBounds_toArray, List.set_cons_zero, List.set_cons_succ, World.size_alloc, if_pos, if_neg, if_false, if_true] at hB
  have hR := hB.rules
  simp only [RulesAt] at hR
  have hZ := hB.lts
  simp only [LtsAt] at hZ
  have hs0 := hG.size
  have hI := Grow.refl W
  simp only [Act.put]
  go_wp2
  (try simp only [Exit.inBlock, Exit.then])
  apply post_row (i := 0)
  case hr => rfl
  case hp => rfl
  case hB => first | exact hB | exact hB.grow hw
  case hi => rfl
  case hcs => (first | assumption | rfl | (simp; done) | (simp; assumption))
  case hrow => kernel_rfl
  case hd => rfl
  exact ⟨rfl, hG⟩

theorem behind_3_2 (g : Grp) (n cut : Int) (w : World) (hn : isW n = true) (hf : formed 3 2 = true) : BehindSays g n 3 2 cut w := by
  unfold BehindSays
  rw [behind_eq hn hf]
  have hGs : Hid ((G g).size = 21) := G_size g
  go_enter Try.func10, Try.ntmps10
  go_wp2_with fail
  with_reducible first | apply gen_wp (w0 := w) | apply gen_list (w0 := w) | apply gen_calls (w0 := w)
  case hb => (repeat (with_reducible first | apply Blocks.alloc | apply Blocks.set | apply Blocks.drew | exact hB | exact Blocks.grow hB hw | exact Blocks.nil _))
  case hg => (repeat (with_reducible first | refine Grow.alloc' ?_ | (refine Grow.set' ?_ (by first | exact Nat.le_refl _ | (simp only []; omega) | (simp; done))) | refine Grow.drew' ?_ | exact hG | exact Grow.trans hG hw | exact Grow.refl _))
  (try clear hw); (try clear hR); (try clear hI); (try clear hZ); (try clear hs0); (try clear hB); (try clear hG)
  intro W hB hG
  try simp (disch := omega) only [List.map_cons, List.map_nil, List.setIfInBounds_toArray, List.set_cons_zero, List.set_cons_succ, World.size_alloc, if_pos, if_neg, if_false, if_true] at hB
  have hR := hB.rules
  simp only [RulesAt] at hR
  have hZ := hB.lts
  simp only [LtsAt] at hZ
  have hs0 := hG.size
  have hI := Grow.refl W
  refine (writer_any _ _).mono ?_
  rintro e w' ⟨rfl, rfl⟩
  rw [hn]
  go_wp2_with fail
  refine (formed_any _ _ _).mono ?_
  rintro e w' ⟨rfl, rfl⟩
  rw [hf]
  go_wp2_with (with_reducible apply stop_load (ty := 28))
  intro _
  with_reducible first | apply gen_wp (w0 := w) | apply gen_list (w0 := w) | apply gen_calls (w0 := w)
  case hb => (repeat (with_reducible first | apply Blocks.alloc | apply Blocks.set | apply Blocks.drew | exact hB | exact Blocks.grow hB hw | exact Blocks.nil _))
  case hg => (repeat (with_reducible first | refine Grow.alloc' ?_ | (refine Grow.set' ?_ (by first | exact Nat.le_refl _ | (simp only []; omega) | (simp; done))) | refine Grow.drew' ?_ | exact hG | exact Grow.trans hG hw | exact Grow.refl _))
  (try clear hw); (try clear hR); (try clear hI); (try clear hZ); (try clear hs0); (try clear hB); (try clear hG)
  intro W hB hG
  try simp (disch := omega) only [List.map_cons, List.map_nil, List.setIfInBounds_toArray, List.set_cons_zero, List.set_cons_succ, World.size_alloc, if_pos, if_neg, if_false, if_true] at hB
  have hR := hB.rules
  simp only [RulesAt] at hR
  have hZ := hB.lts
  simp only [LtsAt] at hZ
  have hs0 := hG.size
  have hI := Grow.refl W
  have hGo := G_one (afterOp g n 3 2 cut)
  have hGb : Hid ((G (afterOp g n 3 2 cut)).size = 21) := G_size _
  replace hB : Blocks W [_, (w.heap.size, G (afterOp g n 3 2 cut), 28)] := hB
  try simp (disch := omega) only [List.map_cons, List.map_nil, List.setIfInBounds_toArray, List.set_cons_zero, List.set_cons_succ, World.size_alloc, if_pos, if_neg, if_false, if_true] at hB
  have hR := hB.rules
  simp only [RulesAt] at hR
  have hZ := hB.lts
  simp only [LtsAt] at hZ
  have hs0 := hG.size
  have hI := Grow.refl W
  go_wp2_with (with_reducible apply wl_load_rowG (i := 1))
  case hx => rfl
  (try case hg => rfl)
  case hB => first | exact hB | exact hB.grow hw
  case hi => rfl
  case hcs => (first | assumption | rfl | (simp; done) | (simp; assumption))
  case hrow => kernel_rfl
  intro _
  simp only [Act.put]
  go_wp2_with (with_reducible apply wl_store_row2 (i := 0))
  case hx => rfl
  case hy => rfl
  case hB => first | exact hB | exact hB.grow hw
  case hG => first | exact hG | exact hG.trans hw
  case hi => rfl
  case hcl => (first | assumption | rfl | (simp; done) | (simp; assumption))
  case hcs => (first | assumption | rfl | (simp; done) | (simp; assumption))
  case hrow => kernel_rfl
  case h1 => first | assumption | exact all_ints _ _ | simp [Value.oneCell']
  case hb0 => (first | exact Nat.le_refl _ | omega)
  (try clear hw); (try clear hR); (try clear hI); (try clear hZ); (try clear hs0); (try clear hB); (try clear hG)
  intro W hB hG
  try simp (disch := omega) only [List.map_cons, List.map_nil, List.setIfInBounds_toArray, List.set_cons_zero, List.set_cons_succ, World.size_alloc, if_pos, if_neg, if_false, if_true] at hB
  have hR := hB.rules
  simp only [RulesAt] at hR
  have hZ := hB.lts
  simp only [LtsAt] at hZ
  have hs0 := hG.size
  have hI := Grow.refl W
  simp only [Act.put]
  go_wp2
  (try simp only [Exit.inBlock, Exit.then])
  apply post_row (i := 0)
  case hr => rfl
  case hp => rfl
  case hB => first | exact hB | exact hB.grow hw
  case hi => rfl
  case hcs => (first | assumption | rfl | (simp; done) | (simp; assumption))
  case hrow => kernel_rfl
  case hd => rfl
  exact ⟨rfl, hG⟩

theorem behind_1_3 (g : Grp) (member cut : Int) (w : World) (hn : isW 3 = true) (hf : formed 1 member = true) : BehindSays g 3 1 member cut w := by
  unfold BehindSays
  rw [behind_eq hn hf]
  have hGs : Hid ((G g).size = 21) := G_size g
  go_enter Try.func10, Try.ntmps10
  go_wp2_with fail
  with_reducible first | apply gen_wp (w0 := w) | apply gen_list (w0 := w) | apply gen_calls (w0 := w)
  case hb => (repeat (with_reducible first | apply Blocks.alloc | apply Blocks.set | apply Blocks.drew | exact hB | exact Blocks.grow hB hw | exact Blocks.nil _))
  case hg => (repeat (with_reducible first | refine Grow.alloc' ?_ | (refine Grow.set' ?_ (by first | exact Nat.le_refl _ | (simp only []; omega) | (simp; done))) | refine Grow.drew' ?_ | exact hG | exact Grow.trans hG hw | exact Grow.refl _))
  (try clear hw); (try clear hR); (try clear hI); (try clear hZ); (try clear hs0); (try clear hB); (try clear hG)
  intro W hB hG
  try simp (disch := omega) only [List.map_cons, List.map_nil, List.setIfInBounds_toArray, List.set_cons_zero, List.set_cons_succ, World.size_alloc, if_pos, if_neg, if_false, if_true] at hB
  have hR := hB.rules
  simp only [RulesAt] at hR
  have hZ := hB.lts
  simp only [LtsAt] at hZ
  have hs0 := hG.size
  have hI := Grow.refl W
  refine (writer_any _ _).mono ?_
  rintro e w' ⟨rfl, rfl⟩
  rw [hn]
  go_wp2_with fail
  refine (formed_any _ _ _).mono ?_
  rintro e w' ⟨rfl, rfl⟩
  rw [hf]
  go_wp2_with (with_reducible apply stop_load (ty := 28))
  intro _
  with_reducible first | apply gen_wp (w0 := w) | apply gen_list (w0 := w) | apply gen_calls (w0 := w)
  case hb => (repeat (with_reducible first | apply Blocks.alloc | apply Blocks.set | apply Blocks.drew | exact hB | exact Blocks.grow hB hw | exact Blocks.nil _))
  case hg => (repeat (with_reducible first | refine Grow.alloc' ?_ | (refine Grow.set' ?_ (by first | exact Nat.le_refl _ | (simp only []; omega) | (simp; done))) | refine Grow.drew' ?_ | exact hG | exact Grow.trans hG hw | exact Grow.refl _))
  (try clear hw); (try clear hR); (try clear hI); (try clear hZ); (try clear hs0); (try clear hB); (try clear hG)
  intro W hB hG
  try simp (disch := omega) only [List.map_cons, List.map_nil, List.setIfInBounds_toArray, List.set_cons_zero, List.set_cons_succ, World.size_alloc, if_pos, if_neg, if_false, if_true] at hB
  have hR := hB.rules
  simp only [RulesAt] at hR
  have hZ := hB.lts
  simp only [LtsAt] at hZ
  have hs0 := hG.size
  have hI := Grow.refl W
  have hGo := G_one (afterOp g 3 1 member cut)
  have hGb : Hid ((G (afterOp g 3 1 member cut)).size = 21) := G_size _
  replace hB : Blocks W [_, (w.heap.size, G (afterOp g 3 1 member cut), 28)] := hB
  try simp (disch := omega) only [List.map_cons, List.map_nil, List.setIfInBounds_toArray, List.set_cons_zero, List.set_cons_succ, World.size_alloc, if_pos, if_neg, if_false, if_true] at hB
  have hR := hB.rules
  simp only [RulesAt] at hR
  have hZ := hB.lts
  simp only [LtsAt] at hZ
  have hs0 := hG.size
  have hI := Grow.refl W
  go_wp2_with (with_reducible apply wl_load_rowG (i := 1))
  case hx => rfl
  (try case hg => rfl)
  case hB => first | exact hB | exact hB.grow hw
  case hi => rfl
  case hcs => (first | assumption | rfl | (simp; done) | (simp; assumption))
  case hrow => kernel_rfl
  intro _
  simp only [Act.put]
  go_wp2_with (with_reducible apply wl_store_row2 (i := 0))
  case hx => rfl
  case hy => rfl
  case hB => first | exact hB | exact hB.grow hw
  case hG => first | exact hG | exact hG.trans hw
  case hi => rfl
  case hcl => (first | assumption | rfl | (simp; done) | (simp; assumption))
  case hcs => (first | assumption | rfl | (simp; done) | (simp; assumption))
  case hrow => kernel_rfl
  case h1 => first | assumption | exact all_ints _ _ | simp [Value.oneCell']
  case hb0 => (first | exact Nat.le_refl _ | omega)
  (try clear hw); (try clear hR); (try clear hI); (try clear hZ); (try clear hs0); (try clear hB); (try clear hG)
  intro W hB hG
  try simp (disch := omega) only [List.map_cons, List.map_nil, List.setIfInBounds_toArray, List.set_cons_zero, List.set_cons_succ, World.size_alloc, if_pos, if_neg, if_false, if_true] at hB
  have hR := hB.rules
  simp only [RulesAt] at hR
  have hZ := hB.lts
  simp only [LtsAt] at hZ
  have hs0 := hG.size
  have hI := Grow.refl W
  simp only [Act.put]
  go_wp2
  (try simp only [Exit.inBlock, Exit.then])
  apply post_row (i := 0)
  case hr => rfl
  case hp => rfl
  case hB => first | exact hB | exact hB.grow hw
  case hi => rfl
  case hcs => (first | assumption | rfl | (simp; done) | (simp; assumption))
  case hrow => kernel_rfl
  case hd => rfl
  exact ⟨rfl, hG⟩

theorem behind_2_3 (g : Grp) (n cut : Int) (w : World) (hn : isW n = true) (hf : formed 2 3 = true) : BehindSays g n 2 3 cut w := by
  unfold BehindSays
  rw [behind_eq hn hf]
  have hGs : Hid ((G g).size = 21) := G_size g
  go_enter Try.func10, Try.ntmps10
  go_wp2_with fail
  with_reducible first | apply gen_wp (w0 := w) | apply gen_list (w0 := w) | apply gen_calls (w0 := w)
  case hb => (repeat (with_reducible first | apply Blocks.alloc | apply Blocks.set | apply Blocks.drew | exact hB | exact Blocks.grow hB hw | exact Blocks.nil _))
  case hg => (repeat (with_reducible first | refine Grow.alloc' ?_ | (refine Grow.set' ?_ (by first | exact Nat.le_refl _ | (simp only []; omega) | (simp; done))) | refine Grow.drew' ?_ | exact hG | exact Grow.trans hG hw | exact Grow.refl _))
  (try clear hw); (try clear hR); (try clear hI); (try clear hZ); (try clear hs0); (try clear hB); (try clear hG)
  intro W hB hG
  try simp (disch := omega) only [List.map_cons, List.map_nil, List.setIfInBounds_toArray, List.set_cons_zero, List.set_cons_succ, World.size_alloc, if_pos, if_neg, if_false, if_true] at hB
  have hR := hB.rules
  simp only [RulesAt] at hR
  have hZ := hB.lts
  simp only [LtsAt] at hZ
  have hs0 := hG.size
  have hI := Grow.refl W
  refine (writer_any _ _).mono ?_
  rintro e w' ⟨rfl, rfl⟩
  rw [hn]
  go_wp2_with fail
  refine (formed_any _ _ _).mono ?_
  rintro e w' ⟨rfl, rfl⟩
  rw [hf]
  go_wp2_with (with_reducible apply stop_load (ty := 28))
  intro _
  with_reducible first | apply gen_wp (w0 := w) | apply gen_list (w0 := w) | apply gen_calls (w0 := w)
  case hb => (repeat (with_reducible first | apply Blocks.alloc | apply Blocks.set | apply Blocks.drew | exact hB | exact Blocks.grow hB hw | exact Blocks.nil _))
  case hg => (repeat (with_reducible first | refine Grow.alloc' ?_ | (refine Grow.set' ?_ (by first | exact Nat.le_refl _ | (simp only []; omega) | (simp; done))) | refine Grow.drew' ?_ | exact hG | exact Grow.trans hG hw | exact Grow.refl _))
  (try clear hw); (try clear hR); (try clear hI); (try clear hZ); (try clear hs0); (try clear hB); (try clear hG)
  intro W hB hG
  try simp (disch := omega) only [List.map_cons, List.map_nil, List.setIfInBounds_toArray, List.set_cons_zero, List.set_cons_succ, World.size_alloc, if_pos, if_neg, if_false, if_true] at hB
  have hR := hB.rules
  simp only [RulesAt] at hR
  have hZ := hB.lts
  simp only [LtsAt] at hZ
  have hs0 := hG.size
  have hI := Grow.refl W
  have hGo := G_one (afterOp g n 2 3 cut)
  have hGb : Hid ((G (afterOp g n 2 3 cut)).size = 21) := G_size _
  replace hB : Blocks W [_, (w.heap.size, G (afterOp g n 2 3 cut), 28)] := hB
  try simp (disch := omega) only [List.map_cons, List.map_nil, List.setIfInBounds_toArray, List.set_cons_zero, List.set_cons_succ, World.size_alloc, if_pos, if_neg, if_false, if_true] at hB
  have hR := hB.rules
  simp only [RulesAt] at hR
  have hZ := hB.lts
  simp only [LtsAt] at hZ
  have hs0 := hG.size
  have hI := Grow.refl W
  go_wp2_with (with_reducible apply wl_load_rowG (i := 1))
  case hx => rfl
  (try case hg => rfl)
  case hB => first | exact hB | exact hB.grow hw
  case hi => rfl
  case hcs => (first | assumption | rfl | (simp; done) | (simp; assumption))
  case hrow => kernel_rfl
  intro _
  simp only [Act.put]
  go_wp2_with (with_reducible apply wl_store_row2 (i := 0))
  case hx => rfl
  case hy => rfl
  case hB => first | exact hB | exact hB.grow hw
  case hG => first | exact hG | exact hG.trans hw
  case hi => rfl
  case hcl => (first | assumption | rfl | (simp; done) | (simp; assumption))
  case hcs => (first | assumption | rfl | (simp; done) | (simp; assumption))
  case hrow => kernel_rfl
  case h1 => first | assumption | exact all_ints _ _ | simp [Value.oneCell']
  case hb0 => (first | exact Nat.le_refl _ | omega)
  (try clear hw); (try clear hR); (try clear hI); (try clear hZ); (try clear hs0); (try clear hB); (try clear hG)
  intro W hB hG
  try simp (disch := omega) only [List.map_cons, List.map_nil, List.setIfInBounds_toArray, List.set_cons_zero, List.set_cons_succ, World.size_alloc, if_pos, if_neg, if_false, if_true] at hB
  have hR := hB.rules
  simp only [RulesAt] at hR
  have hZ := hB.lts
  simp only [LtsAt] at hZ
  have hs0 := hG.size
  have hI := Grow.refl W
  simp only [Act.put]
  go_wp2
  (try simp only [Exit.inBlock, Exit.then])
  apply post_row (i := 0)
  case hr => rfl
  case hp => rfl
  case hB => first | exact hB | exact hB.grow hw
  case hi => rfl
  case hcs => (first | assumption | rfl | (simp; done) | (simp; assumption))
  case hrow => kernel_rfl
  case hd => rfl
  exact ⟨rfl, hG⟩

theorem behind_3_3 (g : Grp) (n cut : Int) (w : World) (hn : isW n = true) (hf : formed 3 3 = true) : BehindSays g n 3 3 cut w := by
  unfold BehindSays
  rw [behind_eq hn hf]
  have hGs : Hid ((G g).size = 21) := G_size g
  go_enter Try.func10, Try.ntmps10
  go_wp2_with fail
  with_reducible first | apply gen_wp (w0 := w) | apply gen_list (w0 := w) | apply gen_calls (w0 := w)
  case hb => (repeat (with_reducible first | apply Blocks.alloc | apply Blocks.set | apply Blocks.drew | exact hB | exact Blocks.grow hB hw | exact Blocks.nil _))
  case hg => (repeat (with_reducible first | refine Grow.alloc' ?_ | (refine Grow.set' ?_ (by first | exact Nat.le_refl _ | (simp only []; omega) | (simp; done))) | refine Grow.drew' ?_ | exact hG | exact Grow.trans hG hw | exact Grow.refl _))
  (try clear hw); (try clear hR); (try clear hI); (try clear hZ); (try clear hs0); (try clear hB); (try clear hG)
  intro W hB hG
  try simp (disch := omega) only [List.map_cons, List.map_nil, List.setIfInBounds_toArray, List.set_cons_zero, List.set_cons_succ, World.size_alloc, if_pos, if_neg, if_false, if_true] at hB
  have hR := hB.rules
  simp only [RulesAt] at hR
  have hZ := hB.lts
  simp only [LtsAt] at hZ
  have hs0 := hG.size
  have hI := Grow.refl W
  refine (writer_any _ _).mono ?_
  rintro e w' ⟨rfl, rfl⟩
  rw [hn]
  go_wp2_with fail
  refine (formed_any _ _ _).mono ?_
  rintro e w' ⟨rfl, rfl⟩
  rw [hf]
  go_wp2_with (with_reducible apply stop_load (ty := 28))
  intro _
  with_reducible first | apply gen_wp (w0 := w) | apply gen_list (w0 := w) | apply gen_calls (w0 := w)
  case hb => (repeat (with_reducible first | apply Blocks.alloc | apply Blocks.set | apply Blocks.drew | exact hB | exact Blocks.grow hB hw | exact Blocks.nil _))
  case hg => (repeat (with_reducible first | refine Grow.alloc' ?_ | (refine Grow.set' ?_ (by first | exact Nat.le_refl _ | (simp only []; omega) | (simp; done))) | refine Grow.drew' ?_ | exact hG | exact Grow.trans hG hw | exact Grow.refl _))
  (try clear hw); (try clear hR); (try clear hI); (try clear hZ); (try clear hs0); (try clear hB); (try clear hG)
  intro W hB hG
  try simp (disch := omega) only [List.map_cons, List.map_nil, List.setIfInBounds_toArray, List.set_cons_zero, List.set_cons_succ, World.size_alloc, if_pos, if_neg, if_false, if_true] at hB
  have hR := hB.rules
  simp only [RulesAt] at hR
  have hZ := hB.lts
  simp only [LtsAt] at hZ
  have hs0 := hG.size
  have hI := Grow.refl W
  have hGo := G_one (afterOp g n 3 3 cut)
  have hGb : Hid ((G (afterOp g n 3 3 cut)).size = 21) := G_size _
  replace hB : Blocks W [_, (w.heap.size, G (afterOp g n 3 3 cut), 28)] := hB
  try simp (disch := omega) only [List.map_cons, List.map_nil, List.setIfInBounds_toArray, List.set_cons_zero, List.set_cons_succ, World.size_alloc, if_pos, if_neg, if_false, if_true] at hB
  have hR := hB.rules
  simp only [RulesAt] at hR
  have hZ := hB.lts
  simp only [LtsAt] at hZ
  have hs0 := hG.size
  have hI := Grow.refl W
  go_wp2_with (with_reducible apply wl_load_rowG (i := 1))
  case hx => rfl
  (try case hg => rfl)
  case hB => first | exact hB | exact hB.grow hw
  case hi => rfl
  case hcs => (first | assumption | rfl | (simp; done) | (simp; assumption))
  case hrow => kernel_rfl
  intro _
  simp only [Act.put]
  go_wp2_with (with_reducible apply wl_store_row2 (i := 0))
  case hx => rfl
  case hy => rfl
  case hB => first | exact hB | exact hB.grow hw
  case hG => first | exact hG | exact hG.trans hw
  case hi => rfl
  case hcl => (first | assumption | rfl | (simp; done) | (simp; assumption))
  case hcs => (first | assumption | rfl | (simp; done) | (simp; assumption))
  case hrow => kernel_rfl
  case h1 => first | assumption | exact all_ints _ _ | simp [Value.oneCell']
  case hb0 => (first | exact Nat.le_refl _ | omega)
  (try clear hw); (try clear hR); (try clear hI); (try clear hZ); (try clear hs0); (try clear hB); (try clear hG)
  intro W hB hG
  try simp (disch := omega) only [List.map_cons, List.map_nil, List.setIfInBounds_toArray, List.set_cons_zero, List.set_cons_succ, World.size_alloc, if_pos, if_neg, if_false, if_true] at hB
  have hR := hB.rules
  simp only [RulesAt] at hR
  have hZ := hB.lts
  simp only [LtsAt] at hZ
  have hs0 := hG.size
  have hI := Grow.refl W
  simp only [Act.put]
  go_wp2
  (try simp only [Exit.inBlock, Exit.then])
  apply post_row (i := 0)
  case hr => rfl
  case hp => rfl
  case hB => first | exact hB | exact hB.grow hw
  case hi => rfl
  case hcs => (first | assumption | rfl | (simp; done) | (simp; assumption))
  case hrow => kernel_rfl
  case hd => rfl
  exact ⟨rfl, hG⟩

theorem behind_1_4 (g : Grp) (member cut : Int) (w : World) (hn : isW 4 = true) (hf : formed 1 member = true) : BehindSays g 4 1 member cut w := by
  unfold BehindSays
  rw [behind_eq hn hf]
  have hGs : Hid ((G g).size = 21) := G_size g
  go_enter Try.func10, Try.ntmps10
  go_wp2_with fail
  with_reducible first | apply gen_wp (w0 := w) | apply gen_list (w0 := w) | apply gen_calls (w0 := w)
  case hb => (repeat (with_reducible first | apply Blocks.alloc | apply Blocks.set | apply Blocks.drew | exact hB | exact Blocks.grow hB hw | exact Blocks.nil _))
  case hg => (repeat (with_reducible first | refine Grow.alloc' ?_ | (refine Grow.set' ?_ (by first | exact Nat.le_refl _ | (simp only []; omega) | (simp; done))) | refine Grow.drew' ?_ | exact hG | exact Grow.trans hG hw | exact Grow.refl _))
  (try clear hw); (try clear hR); (try clear hI); (try clear hZ); (try clear hs0); (try clear hB); (try clear hG)
  intro W hB hG
  try simp (disch := omega) only [List.map_cons, List.map_nil, List.setIfInBounds_toArray, List.set_cons_zero, List.set_cons_succ, World.size_alloc, if_pos, if_neg, if_false, if_true] at hB
  have hR := hB.rules
  simp only [RulesAt] at hR
  have hZ := hB.lts
  simp only [LtsAt] at hZ
  have hs0 := hG.size
  have hI := Grow.refl W
  refine (writer_any _ _).mono ?_
  rintro e w' ⟨rfl, rfl⟩
  rw [hn]
  go_wp2_with fail
  refine (formed_any _ _ _).mono ?_
  rintro e w' ⟨rfl, rfl⟩
  rw [hf]
  go_wp2_with (with_reducible apply stop_load (ty := 28))
  intro _
  with_reducible first | apply gen_wp (w0 := w) | apply gen_list (w0 := w) | apply gen_calls (w0 := w)
  case hb => (repeat (with_reducible first | apply Blocks.alloc | apply Blocks.set | apply Blocks.drew | exact hB | exact Blocks.grow hB hw | exact Blocks.nil _))
  case hg => (repeat (with_reducible first | refine Grow.alloc' ?_ | (refine Grow.set' ?_ (by first | exact Nat.le_refl _ | (simp only []; omega) | (simp; done))) | refine Grow.drew' ?_ | exact hG | exact Grow.trans hG hw | exact Grow.refl _))
  (try clear hw); (try clear hR); (try clear hI); (try clear hZ); (try clear hs0); (try clear hB); (try clear hG)
  intro W hB hG
  try simp (disch := omega) only [List.map_cons, List.map_nil, List.setIfInBounds_toArray, List.set_cons_zero, List.set_cons_succ, World.size_alloc, if_pos, if_neg, if_false, if_true] at hB
  have hR := hB.rules
  simp only [RulesAt] at hR
  have hZ := hB.lts
  simp only [LtsAt] at hZ
  have hs0 := hG.size
  have hI := Grow.refl W
  have hGo := G_one (afterOp g 4 1 member cut)
  have hGb : Hid ((G (afterOp g 4 1 member cut)).size = 21) := G_size _
  replace hB : Blocks W [_, (w.heap.size, G (afterOp g 4 1 member cut), 28)] := hB
  try simp (disch := omega) only [List.map_cons, List.map_nil, List.setIfInBounds_toArray, List.set_cons_zero, List.set_cons_succ, World.size_alloc, if_pos, if_neg, if_false, if_true] at hB
  have hR := hB.rules
  simp only [RulesAt] at hR
  have hZ := hB.lts
  simp only [LtsAt] at hZ
  have hs0 := hG.size
  have hI := Grow.refl W
  go_wp2_with (with_reducible apply wl_load_rowG (i := 1))
  case hx => rfl
  (try case hg => rfl)
  case hB => first | exact hB | exact hB.grow hw
  case hi => rfl
  case hcs => (first | assumption | rfl | (simp; done) | (simp; assumption))
  case hrow => kernel_rfl
  intro _
  simp only [Act.put]
  go_wp2_with (with_reducible apply wl_store_row2 (i := 0))
  case hx => rfl
  case hy => rfl
  case hB => first | exact hB | exact hB.grow hw
  case hG => first | exact hG | exact hG.trans hw
  case hi => rfl
  case hcl => (first | assumption | rfl | (simp; done) | (simp; assumption))
  case hcs => (first | assumption | rfl | (simp; done) | (simp; assumption))
  case hrow => kernel_rfl
  case h1 => first | assumption | exact all_ints _ _ | simp [Value.oneCell']
  case hb0 => (first | exact Nat.le_refl _ | omega)
  (try clear hw); (try clear hR); (try clear hI); (try clear hZ); (try clear hs0); (try clear hB); (try clear hG)
  intro W hB hG
  try simp (disch := omega) only [List.map_cons, List.map_nil, List.setIfInBounds_toArray, List.set_cons_zero, List.set_cons_succ, World.size_alloc, if_pos, if_neg, if_false, if_true] at hB
  have hR := hB.rules
  simp only [RulesAt] at hR
  have hZ := hB.lts
  simp only [LtsAt] at hZ
  have hs0 := hG.size
  have hI := Grow.refl W
  simp only [Act.put]
  go_wp2
  (try simp only [Exit.inBlock, Exit.then])
  apply post_row (i := 0)
  case hr => rfl
  case hp => rfl
  case hB => first | exact hB | exact hB.grow hw
  case hi => rfl
  case hcs => (first | assumption | rfl | (simp; done) | (simp; assumption))
  case hrow => kernel_rfl
  case hd => rfl
  exact ⟨rfl, hG⟩

theorem behind_2_4 (g : Grp) (n cut : Int) (w : World) (hn : isW n = true) (hf : formed 2 4 = true) : BehindSays g n 2 4 cut w := by
  unfold BehindSays
  rw [behind_eq hn hf]
  have hGs : Hid ((G g).size = 21) := G_size g
  go_enter Try.func10, Try.ntmps10
  go_wp2_with fail
  with_reducible first | apply gen_wp (w0 := w) | apply gen_list (w0 := w) | apply gen_calls (w0 := w)
  case hb => (repeat (with_reducible first | apply Blocks.alloc | apply Blocks.set | apply Blocks.drew | exact hB | exact Blocks.grow hB hw | exact Blocks.nil _))
  case hg => (repeat (with_reducible first | refine Grow.alloc' ?_ | (refine Grow.set' ?_ (by first | exact Nat.le_refl _ | (simp only []; omega) | (simp; done))) | refine Grow.drew' ?_ | exact hG | exact Grow.trans hG hw | exact Grow.refl _))
  (try clear hw); (try clear hR); (try clear hI); (try clear hZ); (try clear hs0); (try clear hB); (try clear hG)
  intro W hB hG
  try simp (disch := omega) only [List.map_cons, List.map_nil, List.setIfInBounds_toArray, List.set_cons_zero, List.set_cons_succ, World.size_alloc, if_pos, if_neg, if_false, if_true] at hB
  have hR := hB.rules
  simp only [RulesAt] at hR
  have hZ := hB.lts
  simp only [LtsAt] at hZ
  have hs0 := hG.size
  have hI := Grow.refl W
  refine (writer_any _ _).mono ?_
  rintro e w' ⟨rfl, rfl⟩
  rw [hn]
  go_wp2_with fail
  refine (formed_any _ _ _).mono ?_
  rintro e w' ⟨rfl, rfl⟩
  rw [hf]
  go_wp2_with (with_reducible apply stop_load (ty := 28))
  intro _
  with_reducible first | apply gen_wp (w0 := w) | apply gen_list (w0 := w) | apply gen_calls (w0 := w)
  case hb => (repeat (with_reducible first | apply Blocks.alloc | apply Blocks.set | apply Blocks.drew | exact hB | exact Blocks.grow hB hw | exact Blocks.nil _))
  case hg => (repeat (with_reducible first | refine Grow.alloc' ?_ | (refine Grow.set' ?_ (by first | exact Nat.le_refl _ | (simp only []; omega) | (simp; done))) | refine Grow.drew' ?_ | exact hG | exact Grow.trans hG hw | exact Grow.refl _))
  (try clear hw); (try clear hR); (try clear hI); (try clear hZ); (try clear hs0); (try clear hB); (try clear hG)
  intro W hB hG
  try simp (disch := omega) only [List.map_cons, List.map_nil, List.setIfInBounds_toArray, List.set_cons_zero, List.set_cons_succ, World.size_alloc, if_pos, if_neg, if_false, if_true] at hB
  have hR := hB.rules
  simp only [RulesAt] at hR
  have hZ := hB.lts
  simp only [LtsAt] at hZ
  have hs0 := hG.size
  have hI := Grow.refl W
  have hGo := G_one (afterOp g n 2 4 cut)
  have hGb : Hid ((G (afterOp g n 2 4 cut)).size = 21) := G_size _
  replace hB : Blocks W [_, (w.heap.size, G (afterOp g n 2 4 cut), 28)] := hB
  try simp (disch := omega) only [List.map_cons, List.map_nil, List.setIfInBounds_toArray, List.set_cons_zero, List.set_cons_succ, World.size_alloc, if_pos, if_neg, if_false, if_true] at hB
  have hR := hB.rules
  simp only [RulesAt] at hR
  have hZ := hB.lts
  simp only [LtsAt] at hZ
  have hs0 := hG.size
  have hI := Grow.refl W
  go_wp2_with (with_reducible apply wl_load_rowG (i := 1))
  case hx => rfl
  (try case hg => rfl)
  case hB => first | exact hB | exact hB.grow hw
  case hi => rfl
  case hcs => (first | assumption | rfl | (simp; done) | (simp; assumption))
  case hrow => kernel_rfl
  intro _
  simp only [Act.put]
  go_wp2_with (with_reducible apply wl_store_row2 (i := 0))
  case hx => rfl
  case hy => rfl
  case hB => first | exact hB | exact hB.grow hw
  case hG => first | exact hG | exact hG.trans hw
  case hi => rfl
  case hcl => (first | assumption | rfl | (simp; done) | (simp; assumption))
  case hcs => (first | assumption | rfl | (simp; done) | (simp; assumption))
  case hrow => kernel_rfl
  case h1 => first | assumption | exact all_ints _ _ | simp [Value.oneCell']
  case hb0 => (first | exact Nat.le_refl _ | omega)
  (try clear hw); (try clear hR); (try clear hI); (try clear hZ); (try clear hs0); (try clear hB); (try clear hG)
  intro W hB hG
  try simp (disch := omega) only [List.map_cons, List.map_nil, List.setIfInBounds_toArray, List.set_cons_zero, List.set_cons_succ, World.size_alloc, if_pos, if_neg, if_false, if_true] at hB
  have hR := hB.rules
  simp only [RulesAt] at hR
  have hZ := hB.lts
  simp only [LtsAt] at hZ
  have hs0 := hG.size
  have hI := Grow.refl W
  simp only [Act.put]
  go_wp2
  (try simp only [Exit.inBlock, Exit.then])
  apply post_row (i := 0)
  case hr => rfl
  case hp => rfl
  case hB => first | exact hB | exact hB.grow hw
  case hi => rfl
  case hcs => (first | assumption | rfl | (simp; done) | (simp; assumption))
  case hrow => kernel_rfl
  case hd => rfl
  exact ⟨rfl, hG⟩

theorem behind_3_4 (g : Grp) (n cut : Int) (w : World) (hn : isW n = true) (hf : formed 3 4 = true) : BehindSays g n 3 4 cut w := by
  unfold BehindSays
  rw [behind_eq hn hf]
  have hGs : Hid ((G g).size = 21) := G_size g
  go_enter Try.func10, Try.ntmps10
  go_wp2_with fail
  with_reducible first | apply gen_wp (w0 := w) | apply gen_list (w0 := w) | apply gen_calls (w0 := w)
  case hb => (repeat (with_reducible first | apply Blocks.alloc | apply Blocks.set | apply Blocks.drew | exact hB | exact Blocks.grow hB hw | exact Blocks.nil _))
  case hg => (repeat (with_reducible first | refine Grow.alloc' ?_ | (refine Grow.set' ?_ (by first | exact Nat.le_refl _ | (simp only []; omega) | (simp; done))) | refine Grow.drew' ?_ | exact hG | exact Grow.trans hG hw | exact Grow.refl _))
  (try clear hw); (try clear hR); (try clear hI); (try clear hZ); (try clear hs0); (try clear hB); (try clear hG)
  intro W hB hG
  try simp (disch := omega) only [List.map_cons, List.map_nil, List.setIfInBounds_toArray, List.set_cons_zero, List.set_cons_succ, World.size_alloc, if_pos, if_neg, if_false, if_true] at hB
  have hR := hB.rules
  simp only [RulesAt] at hR
  have hZ := hB.lts
  simp only [LtsAt] at hZ
  have hs0 := hG.size
  have hI := Grow.refl W
  refine (writer_any _ _).mono ?_
  rintro e w' ⟨rfl, rfl⟩
  rw [hn]
  go_wp2_with fail
  refine (formed_any _ _ _).mono ?_
  rintro e w' ⟨rfl, rfl⟩
  rw [hf]
  go_wp2_with (with_reducible apply stop_load (ty := 28))
  intro _
  with_reducible first | apply gen_wp (w0 := w) | apply gen_list (w0 := w) | apply gen_calls (w0 := w)
  case hb => (repeat (with_reducible first | apply Blocks.alloc | apply Blocks.set | apply Blocks.drew | exact hB | exact Blocks.grow hB hw | exact Blocks.nil _))
  case hg => (repeat (with_reducible first | refine Grow.alloc' ?_ | (refine Grow.set' ?_ (by first | exact Nat.le_refl _ | (simp only []; omega) | (simp; done))) | refine Grow.drew' ?_ | exact hG | exact Grow.trans hG hw | exact Grow.refl _))
  (try clear hw); (try clear hR); (try clear hI); (try clear hZ); (try clear hs0); (try clear hB); (try clear hG)
  intro W hB hG
  try simp (disch := omega) only [List.map_cons, List.map_nil, List.setIfInBounds_toArray, List.set_cons_zero, List.set_cons_succ, World.size_alloc, if_pos, if_neg, if_false, if_true] at hB
  have hR := hB.rules
  simp only [RulesAt] at hR
  have hZ := hB.lts
  simp only [LtsAt] at hZ
  have hs0 := hG.size
  have hI := Grow.refl W
  have hGo := G_one (afterOp g n 3 4 cut)
  have hGb : Hid ((G (afterOp g n 3 4 cut)).size = 21) := G_size _
  replace hB : Blocks W [_, (w.heap.size, G (afterOp g n 3 4 cut), 28)] := hB
  try simp (disch := omega) only [List.map_cons, List.map_nil, List.setIfInBounds_toArray, List.set_cons_zero, List.set_cons_succ, World.size_alloc, if_pos, if_neg, if_false, if_true] at hB
  have hR := hB.rules
  simp only [RulesAt] at hR
  have hZ := hB.lts
  simp only [LtsAt] at hZ
  have hs0 := hG.size
  have hI := Grow.refl W
  go_wp2_with (with_reducible apply wl_load_rowG (i := 1))
  case hx => rfl
  (try case hg => rfl)
  case hB => first | exact hB | exact hB.grow hw
  case hi => rfl
  case hcs => (first | assumption | rfl | (simp; done) | (simp; assumption))
  case hrow => kernel_rfl
  intro _
  simp only [Act.put]
  go_wp2_with (with_reducible apply wl_store_row2 (i := 0))
  case hx => rfl
  case hy => rfl
  case hB => first | exact hB | exact hB.grow hw
  case hG => first | exact hG | exact hG.trans hw
  case hi => rfl
  case hcl => (first | assumption | rfl | (simp; done) | (simp; assumption))
  case hcs => (first | assumption | rfl | (simp; done) | (simp; assumption))
  case hrow => kernel_rfl
  case h1 => first | assumption | exact all_ints _ _ | simp [Value.oneCell']
  case hb0 => (first | exact Nat.le_refl _ | omega)
  (try clear hw); (try clear hR); (try clear hI); (try clear hZ); (try clear hs0); (try clear hB); (try clear hG)
  intro W hB hG
  try simp (disch := omega) only [List.map_cons, List.map_nil, List.setIfInBounds_toArray, List.set_cons_zero, List.set_cons_succ, World.size_alloc, if_pos, if_neg, if_false, if_true] at hB
  have hR := hB.rules
  simp only [RulesAt] at hR
  have hZ := hB.lts
  simp only [LtsAt] at hZ
  have hs0 := hG.size
  have hI := Grow.refl W
  simp only [Act.put]
  go_wp2
  (try simp only [Exit.inBlock, Exit.then])
  apply post_row (i := 0)
  case hr => rfl
  case hp => rfl
  case hB => first | exact hB | exact hB.grow hw
  case hi => rfl
  case hcs => (first | assumption | rfl | (simp; done) | (simp; assumption))
  case hrow => kernel_rfl
  case hd => rfl
  exact ⟨rfl, hG⟩

theorem behind_1_5 (g : Grp) (member cut : Int) (w : World) (hn : isW 5 = true) (hf : formed 1 member = true) : BehindSays g 5 1 member cut w := by
  unfold BehindSays
  rw [behind_eq hn hf]
  have hGs : Hid ((G g).size = 21) := G_size g
  go_enter Try.func10, Try.ntmps10
  go_wp2_with fail
  with_reducible first | apply gen_wp (w0 := w) | apply gen_list (w0 := w) | apply gen_calls (w0 := w)
  case hb => (repeat (with_reducible first | apply Blocks.alloc | apply Blocks.set | apply Blocks.drew | exact hB | exact Blocks.grow hB hw | exact Blocks.nil _))
  case hg => (repeat (with_reducible first | refine Grow.alloc' ?_ | (refine Grow.set' ?_ (by first | exact Nat.le_refl _ | (simp only []; omega) | (simp; done))) | refine Grow.drew' ?_ | exact hG | exact Grow.trans hG hw | exact Grow.refl _))
  (try clear hw); (try clear hR); (try clear hI); (try clear hZ); (try clear hs0); (try clear hB); (try clear hG)
  intro W hB hG
  try simp (disch := omega) only [List.map_cons, List.map_nil, List.setIfInBounds_toArray, List.set_cons_zero, List.set_cons_succ, World.size_alloc, if_pos, if_neg, if_false, if_true] at hB
  have hR := hB.rules
  simp only [RulesAt] at hR
  have hZ := hB.lts
  simp only [LtsAt] at hZ
  have hs0 := hG.size
  have hI := Grow.refl W
  refine (writer_any _ _).mono ?_
  rintro e w' ⟨rfl, rfl⟩
  rw [hn]
  go_wp2_with fail
  refine (formed_any _ _ _).mono ?_
  rintro e w' ⟨rfl, rfl⟩
  rw [hf]
  go_wp2_with (with_reducible apply stop_load (ty := 28))
  intro _
  with_reducible first | apply gen_wp (w0 := w) | apply gen_list (w0 := w) | apply gen_calls (w0 := w)
  case hb => (repeat (with_reducible first | apply Blocks.alloc | apply Blocks.set | apply Blocks.drew | exact hB | exact Blocks.grow hB hw | exact Blocks.nil _))
  case hg => (repeat (with_reducible first | refine Grow.alloc' ?_ | (refine Grow.set' ?_ (by first | exact Nat.le_refl _ | (simp only []; omega) | (simp; done))) | refine Grow.drew' ?_ | exact hG | exact Grow.trans hG hw | exact Grow.refl _))
  (try clear hw); (try clear hR); (try clear hI); (try clear hZ); (try clear hs0); (try clear hB); (try clear hG)
  intro W hB hG
  try simp (disch := omega) only [List.map_cons, List.map_nil, List.setIfInBounds_toArray, List.set_cons_zero, List.set_cons_succ, World.size_alloc, if_pos, if_neg, if_false, if_true] at hB
  have hR := hB.rules
  simp only [RulesAt] at hR
  have hZ := hB.lts
  simp only [LtsAt] at hZ
  have hs0 := hG.size
  have hI := Grow.refl W
  have hGo := G_one (afterOp g 5 1 member cut)
  have hGb : Hid ((G (afterOp g 5 1 member cut)).size = 21) := G_size _
  replace hB : Blocks W [_, (w.heap.size, G (afterOp g 5 1 member cut), 28)] := hB
  try simp (disch := omega) only [List.map_cons, List.map_nil, List.setIfInBounds_toArray, List.set_cons_zero, List.set_cons_succ, World.size_alloc, if_pos, if_neg, if_false, if_true] at hB
  have hR := hB.rules
  simp only [RulesAt] at hR
  have hZ := hB.lts
  simp only [LtsAt] at hZ
  have hs0 := hG.size
  have hI := Grow.refl W
  go_wp2_with (with_reducible apply wl_load_rowG (i := 1))
  case hx => rfl
  (try case hg => rfl)
  case hB => first | exact hB | exact hB.grow hw
  case hi => rfl
  case hcs => (first | assumption | rfl | (simp; done) | (simp; assumption))
  case hrow => kernel_rfl
  intro _
  simp only [Act.put]
  go_wp2_with (with_reducible apply wl_store_row2 (i := 0))
  case hx => rfl
  case hy => rfl
  case hB => first | exact hB | exact hB.grow hw
  case hG => first | exact hG | exact hG.trans hw
  case hi => rfl
  case hcl => (first | assumption | rfl | (simp; done) | (simp; assumption))
  case hcs => (first | assumption | rfl | (simp; done) | (simp; assumption))
  case hrow => kernel_rfl
  case h1 => first | assumption | exact all_ints _ _ | simp [Value.oneCell']
  case hb0 => (first | exact Nat.le_refl _ | omega)
  (try clear hw); (try clear hR); (try clear hI); (try clear hZ); (try clear hs0); (try clear hB); (try clear hG)
  intro W hB hG
  try simp (disch := omega) only [List.map_cons, List.map_nil, List.setIfInBounds_toArray, List.set_cons_zero, List.set_cons_succ, World.size_alloc, if_pos, if_neg, if_false, if_true] at hB
  have hR := hB.rules
  simp only [RulesAt] at hR
  have hZ := hB.lts
  simp only [LtsAt] at hZ
  have hs0 := hG.size
  have hI := Grow.refl W
  simp only [Act.put]
  go_wp2
  (try simp only [Exit.inBlock, Exit.then])
  apply post_row (i := 0)
  case hr => rfl
  case hp => rfl
  case hB => first | exact hB | exact hB.grow hw
  case hi => rfl
  case hcs => (first | assumption | rfl | (simp; done) | (simp; assumption))
  case hrow => kernel_rfl
  case hd => rfl
  exact ⟨rfl, hG⟩

theorem behind_2_5 (g : Grp) (n cut : Int) (w : World) (hn : isW n = true) (hf : formed 2 5 = true) : BehindSays g n 2 5 cut w := by
  unfold BehindSays
  rw [behind_eq hn hf]
  have hGs : Hid ((G g).size = 21) := G_size g
  go_enter Try.func10, Try.ntmps10
  go_wp2_with fail
  with_reducible first | apply gen_wp (w0 := w) | apply gen_list (w0 := w) | apply gen_calls (w0 := w)
  case hb => (repeat (with_reducible first | apply Blocks.alloc | apply Blocks.set | apply Blocks.drew | exact hB | exact Blocks.grow hB hw | exact Blocks.nil _))
  case hg => (repeat (with_reducible first | refine Grow.alloc' ?_ | (refine Grow.set' ?_ (by first | exact Nat.le_refl _ | (simp only []; omega) | (simp; done))) | refine Grow.drew' ?_ | exact hG | exact Grow.trans hG hw | exact Grow.refl _))
  (try clear hw); (try clear hR); (try clear hI); (try clear hZ); (try clear hs0); (try clear hB); (try clear hG)
  intro W hB hG
  try simp (disch := omega) only [List.map_cons, List.map_nil, List.setIfInBounds_toArray, List.set_cons_zero, List.set_cons_succ, World.size_alloc, if_pos, if_neg, if_false, if_true] at hB
  have hR := hB.rules
  simp only [RulesAt] at hR
  have hZ := hB.lts
  simp only [LtsAt] at hZ
  have hs0 := hG.size
  have hI := Grow.refl W
  refine (writer_any _ _).mono ?_
  rintro e w' ⟨rfl, rfl⟩
  rw [hn]
  go_wp2_with fail
  refine (formed_any _ _ _).mono ?_
  rintro e w' ⟨rfl, rfl⟩
  rw [hf]
  go_wp2_with (with_reducible apply stop_load (ty := 28))
  intro _
  with_reducible first | apply gen_wp (w0 := w) | apply gen_list (w0 := w) | apply gen_calls (w0 := w)
  case hb => (repeat (with_reducible first | apply Blocks.alloc | apply Blocks.set | apply Blocks.drew | exact hB | exact Blocks.grow hB hw | exact Blocks.nil _))
  case hg => (repeat (with_reducible first | refine Grow.alloc' ?_ | (refine Grow.set' ?_ (by first | exact Nat.le_refl _ | (simp only []; omega) | (simp; done))) | refine Grow.drew' ?_ | exact hG | exact Grow.trans hG hw | exact Grow.refl _))
  (try clear hw); (try clear hR); (try clear hI); (try clear hZ); (try clear hs0); (try clear hB); (try clear hG)
  intro W hB hG
  try simp (disch := omega) only [List.map_cons, List.map_nil, List.setIfInBounds_toArray, List.set_cons_zero, List.set_cons_succ, World.size_alloc, if_pos, if_neg, if_false, if_true] at hB
  have hR := hB.rules
  simp only [RulesAt] at hR
  have hZ := hB.lts
  simp only [LtsAt] at hZ
  have hs0 := hG.size
  have hI := Grow.refl W
  have hGo := G_one (afterOp g n 2 5 cut)
  have hGb : Hid ((G (afterOp g n 2 5 cut)).size = 21) := G_size _
  replace hB : Blocks W [_, (w.heap.size, G (afterOp g n 2 5 cut), 28)] := hB
  try simp (disch := omega) only [List.map_cons, List.map_nil, List.setIfInBounds_toArray, List.set_cons_zero, List.set_cons_succ, World.size_alloc, if_pos, if_neg, if_false, if_true] at hB
  have hR := hB.rules
  simp only [RulesAt] at hR
  have hZ := hB.lts
  simp only [LtsAt] at hZ
  have hs0 := hG.size
  have hI := Grow.refl W
  go_wp2_with (with_reducible apply wl_load_rowG (i := 1))
  case hx => rfl
  (try case hg => rfl)
  case hB => first | exact hB | exact hB.grow hw
  case hi => rfl
  case hcs => (first | assumption | rfl | (simp; done) | (simp; assumption))
  case hrow => kernel_rfl
  intro _
  simp only [Act.put]
  go_wp2_with (with_reducible apply wl_store_row2 (i := 0))
  case hx => rfl
  case hy => rfl
  case hB => first | exact hB | exact hB.grow hw
  case hG => first | exact hG | exact hG.trans hw
  case hi => rfl
  case hcl => (first | assumption | rfl | (simp; done) | (simp; assumption))
  case hcs => (first | assumption | rfl | (simp; done) | (simp; assumption))
  case hrow => kernel_rfl
  case h1 => first | assumption | exact all_ints _ _ | simp [Value.oneCell']
  case hb0 => (first | exact Nat.le_refl _ | omega)
  (try clear hw); (try clear hR); (try clear hI); (try clear hZ); (try clear hs0); (try clear hB); (try clear hG)
  intro W hB hG
  try simp (disch := omega) only [List.map_cons, List.map_nil, List.setIfInBounds_toArray, List.set_cons_zero, List.set_cons_succ, World.size_alloc, if_pos, if_neg, if_false, if_true] at hB
  have hR := hB.rules
  simp only [RulesAt] at hR
  have hZ := hB.lts
  simp only [LtsAt] at hZ
  have hs0 := hG.size
  have hI := Grow.refl W
  simp only [Act.put]
  go_wp2
  (try simp only [Exit.inBlock, Exit.then])
  apply post_row (i := 0)
  case hr => rfl
  case hp => rfl
  case hB => first | exact hB | exact hB.grow hw
  case hi => rfl
  case hcs => (first | assumption | rfl | (simp; done) | (simp; assumption))
  case hrow => kernel_rfl
  case hd => rfl
  exact ⟨rfl, hG⟩

theorem behind_3_5 (g : Grp) (n cut : Int) (w : World) (hn : isW n = true) (hf : formed 3 5 = true) : BehindSays g n 3 5 cut w := by
  unfold BehindSays
  rw [behind_eq hn hf]
  have hGs : Hid ((G g).size = 21) := G_size g
  go_enter Try.func10, Try.ntmps10
  go_wp2_with fail
  with_reducible first | apply gen_wp (w0 := w) | apply gen_list (w0 := w) | apply gen_calls (w0 := w)
  case hb => (repeat (with_reducible first | apply Blocks.alloc | apply Blocks.set | apply Blocks.drew | exact hB | exact Blocks.grow hB hw | exact Blocks.nil _))
  case hg => (repeat (with_reducible first | refine Grow.alloc' ?_ | (refine Grow.set' ?_ (by first | exact Nat.le_refl _ | (simp only []; omega) | (simp; done))) | refine Grow.drew' ?_ | exact hG | exact Grow.trans hG hw | exact Grow.refl _))
  (try clear hw); (try clear hR); (try clear hI); (try clear hZ); (try clear hs0); (try clear hB); (try clear hG)
  intro W hB hG
  try simp (disch := omega) only [List.map_cons, List.map_nil, List.setIfInBounds_toArray, List.set_cons_zero, List.set_cons_succ, World.size_alloc, if_pos, if_neg, if_false, if_true] at hB
  have hR := hB.rules
  simp only [RulesAt] at hR
  have hZ := hB.lts
  simp only [LtsAt] at hZ
  have hs0 := hG.size
  have hI := Grow.refl W
  refine (writer_any _ _).mono ?_
  rintro e w' ⟨rfl, rfl⟩
  rw [hn]
  go_wp2_with fail
  refine (formed_any _ _ _).mono ?_
  rintro e w' ⟨rfl, rfl⟩
  rw [hf]
  go_wp2_with (with_reducible apply stop_load (ty := 28))
  intro _
  with_reducible first | apply gen_wp (w0 := w) | apply gen_list (w0 := w) | apply gen_calls (w0 := w)
  case hb => (repeat (with_reducible first | apply Blocks.alloc | apply Blocks.set | apply Blocks.drew | exact hB | exact Blocks.grow hB hw | exact Blocks.nil _))
  case hg => (repeat (with_reducible first | refine Grow.alloc' ?_ | (refine Grow.set' ?_ (by first | exact Nat.le_refl _ | (simp only []; omega) | (simp; done))) | refine Grow.drew' ?_ | exact hG | exact Grow.trans hG hw | exact Grow.refl _))
  (try clear hw); (try clear hR); (try clear hI); (try clear hZ); (try clear hs0); (try clear hB); (try clear hG)
  intro W hB hG
  try simp (disch := omega) only [List.map_cons, List.map_nil, List.setIfInBounds_toArray, List.set_cons_zero, List.set_cons_succ, World.size_alloc, if_pos, if_neg, if_false, if_true] at hB
  have hR := hB.rules
  simp only [RulesAt] at hR
  have hZ := hB.lts
  simp only [LtsAt] at hZ
  have hs0 := hG.size
  have hI := Grow.refl W
  have hGo := G_one (afterOp g n 3 5 cut)
  have hGb : Hid ((G (afterOp g n 3 5 cut)).size = 21) := G_size _
  replace hB : Blocks W [_, (w.heap.size, G (afterOp g n 3 5 cut), 28)] := hB
  try simp (disch := omega) only [List.map_cons, List.map_nil, List.setIfInBounds_toArray, List.set_cons_zero, List.set_cons_succ, World.size_alloc, if_pos, if_neg, if_false, if_true] at hB
  have hR := hB.rules
  simp only [RulesAt] at hR
  have hZ := hB.lts
  simp only [LtsAt] at hZ
  have hs0 := hG.size
  have hI := Grow.refl W
  go_wp2_with (with_reducible apply wl_load_rowG (i := 1))
  case hx => rfl
  (try case hg => rfl)
  case hB => first | exact hB | exact hB.grow hw
  case hi => rfl
  case hcs => (first | assumption | rfl | (simp; done) | (simp; assumption))
  case hrow => kernel_rfl
  intro _
  simp only [Act.put]
  go_wp2_with (with_reducible apply wl_store_row2 (i := 0))
  case hx => rfl
  case hy => rfl
  case hB => first | exact hB | exact hB.grow hw
  case hG => first | exact hG | exact hG.trans hw
  case hi => rfl
  case hcl => (first | assumption | rfl | (simp; done) | (simp; assumption))
  case hcs => (first | assumption | rfl | (simp; done) | (simp; assumption))
  case hrow => kernel_rfl
  case h1 => first | assumption | exact all_ints _ _ | simp [Value.oneCell']
  case hb0 => (first | exact Nat.le_refl _ | omega)
  (try clear hw); (try clear hR); (try clear hI); (try clear hZ); (try clear hs0); (try clear hB); (try clear hG)
  intro W hB hG
  try simp (disch := omega) only [List.map_cons, List.map_nil, List.setIfInBounds_toArray, List.set_cons_zero, List.set_cons_succ, World.size_alloc, if_pos, if_neg, if_false, if_true] at hB
  have hR := hB.rules
  simp only [RulesAt] at hR
  have hZ := hB.lts
  simp only [LtsAt] at hZ
  have hs0 := hG.size
  have hI := Grow.refl W
  simp only [Act.put]
  go_wp2
  (try simp only [Exit.inBlock, Exit.then])
  apply post_row (i := 0)
  case hr => rfl
  case hp => rfl
  case hB => first | exact hB | exact hB.grow hw
  case hi => rfl
  case hcs => (first | assumption | rfl | (simp; done) | (simp; assumption))
  case hrow => kernel_rfl
  case hd => rfl
  exact ⟨rfl, hG⟩

theorem behind_1_6 (g : Grp) (member cut : Int) (w : World) (hn : isW 6 = true) (hf : formed 1 member = true) : BehindSays g 6 1 member cut w := by
  unfold BehindSays
  rw [behind_eq hn hf]
  have hGs : Hid ((G g).size = 21) := G_size g
  go_enter Try.func10, Try.ntmps10
  go_wp2_with fail
  with_reducible first | apply gen_wp (w0 := w) | apply gen_list (w0 := w) | apply gen_calls (w0 := w)
  case hb => (repeat (with_reducible first | apply Blocks.alloc | apply Blocks.set | apply Blocks.drew | exact hB | exact Blocks.grow hB hw | exact Blocks.nil _))
  case hg => (repeat (with_reducible first | refine Grow.alloc' ?_ | (refine Grow.set' ?_ (by first | exact Nat.le_refl _ | (simp only []; omega) | (simp; done))) | refine Grow.drew' ?_ | exact hG | exact Grow.trans hG hw | exact Grow.refl _))
  (try clear hw); (try clear hR); (try clear hI); (try clear hZ); (try clear hs0); (try clear hB); (try clear hG)
  intro W hB hG
  try simp (disch := omega) only [List.map_cons, List.map_nil, List.setIfInBounds_toArray, List.set_cons_zero, List.set_cons_succ, World.size_alloc, if_pos, if_neg, if_false, if_true] at hB
  have hR := hB.rules
  simp only [RulesAt] at hR
  have hZ := hB.lts
  simp only [LtsAt] at hZ
  have hs0 := hG.size
  have hI := Grow.refl W
  refine (writer_any _ _).mono ?_
  rintro e w' ⟨rfl, rfl⟩
  rw [hn]
  go_wp2_with fail
  refine (formed_any _ _ _).mono ?_
  rintro e w' ⟨rfl, rfl⟩
  rw [hf]
  go_wp2_with (with_reducible apply stop_load (ty := 28))
  intro _
  with_reducible first | apply gen_wp (w0 := w) | apply gen_list (w0 := w) | apply gen_calls (w0 := w)
  case hb => (repeat (with_reducible first | apply Blocks.alloc | apply Blocks.set | apply Blocks.drew | exact hB | exact Blocks.grow hB hw | exact Blocks.nil _))
  case hg => (repeat (with_reducible first | refine Grow.alloc' ?_ | (refine Grow.set' ?_ (by first | exact Nat.le_refl _ | (simp only []; omega) | (simp; done))) | refine Grow.drew' ?_ | exact hG | exact Grow.trans hG hw | exact Grow.refl _))
  (try clear hw); (try clear hR); (try clear hI); (try clear hZ); (try clear hs0); (try clear hB); (try clear hG)
  intro W hB hG
  try simp (disch := omega) only [List.map_cons, List.map_nil, List.setIfInBounds_toArray, List.set_cons_zero, List.set_cons_succ, World.size_alloc, if_pos, if_neg, if_false, if_true] at hB
  have hR := hB.rules
  simp only [RulesAt] at hR
  have hZ := hB.lts
  simp only [LtsAt] at hZ
  have hs0 := hG.size
  have hI := Grow.refl W
  have hGo := G_one (afterOp g 6 1 member cut)
  have hGb : Hid ((G (afterOp g 6 1 member cut)).size = 21) := G_size _
  replace hB : Blocks W [_, (w.heap.size, G (afterOp g 6 1 member cut), 28)] := hB
  try simp (disch := omega) only [List.map_cons, List.map_nil, List.setIfInBounds_toArray, List.set_cons_zero, List.set_cons_succ, World.size_alloc, if_pos, if_neg, if_false, if_true] at hB
  have hR := hB.rules
  simp only [RulesAt] at hR
  have hZ := hB.lts
  simp only [LtsAt] at hZ
  have hs0 := hG.size
  have hI := Grow.refl W
  go_wp2_with (with_reducible apply wl_load_rowG (i := 1))
  case hx => rfl
  (try case hg => rfl)
  case hB => first | exact hB | exact hB.grow hw
  case hi => rfl
  case hcs => (first | assumption | rfl | (simp; done) | (simp; assumption))
  case hrow => kernel_rfl
  intro _
  simp only [Act.put]
  go_wp2_with (with_reducible apply wl_store_row2 (i := 0))
  case hx => rfl
  case hy => rfl
  case hB => first | exact hB | exact hB.grow hw
  case hG => first | exact hG | exact hG.trans hw
  case hi => rfl
  case hcl => (first | assumption | rfl | (simp; done) | (simp; assumption))
  case hcs => (first | assumption | rfl | (simp; done) | (simp; assumption))
  case hrow => kernel_rfl
  case h1 => first | assumption | exact all_ints _ _ | simp [Value.oneCell']
  case hb0 => (first | exact Nat.le_refl _ | omega)
  (try clear hw); (try clear hR); (try clear hI); (try clear hZ); (try clear hs0); (try clear hB); (try clear hG)
  intro W hB hG
  try simp (disch := omega) only [List.map_cons, List.map_nil, List.setIfInBounds_toArray, List.set_cons_zero, List.set_cons_succ, World.size_alloc, if_pos, if_neg, if_false, if_true] at hB
  have hR := hB.rules
  simp only [RulesAt] at hR
  have hZ := hB.lts
  simp only [LtsAt] at hZ
  have hs0 := hG.size
  have hI := Grow.refl W
  simp only [Act.put]
  go_wp2
  (try simp only [Exit.inBlock, Exit.then])
  apply post_row (i := 0)
  case hr => rfl
  case hp => rfl
  case hB => first | exact hB | exact hB.grow hw
  case hi => rfl
  case hcs => (first | assumption | rfl | (simp; done) | (simp; assumption))
  case hrow => kernel_rfl
  case hd => rfl
  exact ⟨rfl, hG⟩

theorem behind_2_6 (g : Grp) (n cut : Int) (w : World) (hn : isW n = true) (hf : formed 2 6 = true) : BehindSays g n 2 6 cut w := by
  unfold BehindSays
  rw [behind_eq hn hf]
  have hGs : Hid ((G g).size = 21) := G_size g
  go_enter Try.func10, Try.ntmps10
  go_wp2_with fail
  with_reducible first | apply gen_wp (w0 := w) | apply gen_list (w0 := w) | apply gen_calls (w0 := w)
  case hb => (repeat (with_reducible first | apply Blocks.alloc | apply Blocks.set | apply Blocks.drew | exact hB | exact Blocks.grow hB hw | exact Blocks.nil _))
  case hg => (repeat (with_reducible first | refine Grow.alloc' ?_ | (refine Grow.set' ?_ (by first | exact Nat.le_refl _ | (simp only []; omega) | (simp; done))) | refine Grow.drew' ?_ | exact hG | exact Grow.trans hG hw | exact Grow.refl _))
  (try clear hw); (try clear hR); (try clear hI); (try clear hZ); (try clear hs0); (try clear hB); (try clear hG)
  intro W hB hG
  try simp (disch := omega) only [List.map_cons, List.map_nil, List.setIfInBounds_toArray, List.set_cons_zero, List.set_cons_succ, World.size_alloc, if_pos, if_neg, if_false, if_true] at hB
  have hR := hB.rules
  simp only [RulesAt] at hR
  have hZ := hB.lts
  simp only [LtsAt] at hZ
  have hs0 := hG.size
  have hI := Grow.refl W
  refine (writer_any _ _).mono ?_
  rintro e w' ⟨rfl, rfl⟩
  rw [hn]
  go_wp2_with fail
  refine (formed_any _ _ _).mono ?_
  rintro e w' ⟨rfl, rfl⟩
  rw [hf]
  go_wp2_with (with_reducible apply stop_load (ty := 28))
  intro _
  with_reducible first | apply gen_wp (w0 := w) | apply gen_list (w0 := w) | apply gen_calls (w0 := w)
  case hb => (repeat (with_reducible first | apply Blocks.alloc | apply Blocks.set | apply Blocks.drew | exact hB | exact Blocks.grow hB hw | exact Blocks.nil _))
  case hg => (repeat (with_reducible first | refine Grow.alloc' ?_ | (refine Grow.set' ?_ (by first | exact Nat.le_refl _ | (simp only []; omega) | (simp; done))) | refine Grow.drew' ?_ | exact hG | exact Grow.trans hG hw | exact Grow.refl _))
  (try clear hw); (try clear hR); (try clear hI); (try clear hZ); (try clear hs0); (try clear hB); (try clear hG)
  intro W hB hG
  try simp (disch := omega) only [List.map_cons, List.map_nil, List.setIfInBounds_toArray, List.set_cons_zero, List.set_cons_succ, World.size_alloc, if_pos, if_neg, if_false, if_true] at hB
  have hR := hB.rules
  simp only [RulesAt] at hR
  have hZ := hB.lts
  simp only [LtsAt] at hZ
  have hs0 := hG.size
  have hI := Grow.refl W
  have hGo := G_one (afterOp g n 2 6 cut)
  have hGb : Hid ((G (afterOp g n 2 6 cut)).size = 21) := G_size _
  replace hB : Blocks W [_, (w.heap.size, G (afterOp g n 2 6 cut), 28)] := hB
  try simp (disch := omega) only [List.map_cons, List.map_nil, List.setIfInBounds_toArray, List.set_cons_zero, List.set_cons_succ, World.size_alloc, if_pos, if_neg, if_false, if_true] at hB
  have hR := hB.rules
  simp only [RulesAt] at hR
  have hZ := hB.lts
  simp only [LtsAt] at hZ
  have hs0 := hG.size
  have hI := Grow.refl W
  go_wp2_with (with_reducible apply wl_load_rowG (i := 1))
  case hx => rfl
  (try case hg => rfl)
  case hB => first | exact hB | exact hB.grow hw
  case hi => rfl
  case hcs => (first | assumption | rfl | (simp; done) | (simp; assumption))
  case hrow => kernel_rfl
  intro _
  simp only [Act.put]
  go_wp2_with (with_reducible apply wl_store_row2 (i := 0))
  case hx => rfl
  case hy => rfl
  case hB => first | exact hB | exact hB.grow hw
  case hG => first | exact hG | exact hG.trans hw
  case hi => rfl
  case hcl => (first | assumption | rfl | (simp; done) | (simp; assumption))
  case hcs => (first | assumption | rfl | (simp; done) | (simp; assumption))
  case hrow => kernel_rfl
  case h1 => first | assumption | exact all_ints _ _ | simp [Value.oneCell']
  case hb0 => (first | exact Nat.le_refl _ | omega)
  (try clear hw); (try clear hR); (try clear hI); (try clear hZ); (try clear hs0); (try clear hB); (try clear hG)
  intro W hB hG
  try simp (disch := omega) only [List.map_cons, List.map_nil, List.setIfInBounds_toArray, List.set_cons_zero, List.set_cons_succ, World.size_alloc, if_pos, if_neg, if_false, if_true] at hB
  have hR := hB.rules
  simp only [RulesAt] at hR
  have hZ := hB.lts
  simp only [LtsAt] at hZ
  have hs0 := hG.size
  have hI := Grow.refl W
  simp only [Act.put]
  go_wp2
  (try simp only [Exit.inBlock, Exit.then])
  apply post_row (i := 0)
  case hr => rfl
  case hp => rfl
  case hB => first | exact hB | exact hB.grow hw
  case hi => rfl
  case hcs => (first | assumption | rfl | (simp; done) | (simp; assumption))
  case hrow => kernel_rfl
  case hd => rfl
  exact ⟨rfl, hG⟩

theorem behind_3_6 (g : Grp) (n cut : Int) (w : World) (hn : isW n = true) (hf : formed 3 6 = true) : BehindSays g n 3 6 cut w := by
  unfold BehindSays
  rw [behind_eq hn hf]
  have hGs : Hid ((G g).size = 21) := G_size g
  go_enter Try.func10, Try.ntmps10
  go_wp2_with fail
  with_reducible first | apply gen_wp (w0 := w) | apply gen_list (w0 := w) | apply gen_calls (w0 := w)
  case hb => (repeat (with_reducible first | apply Blocks.alloc | apply Blocks.set | apply Blocks.drew | exact hB | exact Blocks.grow hB hw | exact Blocks.nil _))
  case hg => (repeat (with_reducible first | refine Grow.alloc' ?_ | (refine Grow.set' ?_ (by first | exact Nat.le_refl _ | (simp only []; omega) | (simp; done))) | refine Grow.drew' ?_ | exact hG | exact Grow.trans hG hw | exact Grow.refl _))
  (try clear hw); (try clear hR); (try clear hI); (try clear hZ); (try clear hs0); (try clear hB); (try clear hG)
  intro W hB hG
  try simp (disch := omega) only [List.map_cons, List.map_nil, List.setIfInBounds_toArray, List.set_cons_zero, List.set_cons_succ, World.size_alloc, if_pos, if_neg, if_false, if_true] at hB
  have hR := hB.rules
  simp only [RulesAt] at hR
  have hZ := hB.lts
  simp only [LtsAt] at hZ
  have hs0 := hG.size
  have hI := Grow.refl W
  refine (writer_any _ _).mono ?_
  rintro e w' ⟨rfl, rfl⟩
  rw [hn]
  go_wp2_with fail
  refine (formed_any _ _ _).mono ?_
  rintro e w' ⟨rfl, rfl⟩
  rw [hf]
  go_wp2_with (with_reducible apply stop_load (ty := 28))
  intro _
  with_reducible first | apply gen_wp (w0 := w) | apply gen_list (w0 := w) | apply gen_calls (w0 := w)
  case hb => (repeat (with_reducible first | apply Blocks.alloc | apply Blocks.set | apply Blocks.drew | exact hB | exact Blocks.grow hB hw | exact Blocks.nil _))
  case hg => (repeat (with_reducible first | refine Grow.alloc' ?_ | (refine Grow.set' ?_ (by first | exact Nat.le_refl _ | (simp only []; omega) | (simp; done))) | refine Grow.drew' ?_ | exact hG | exact Grow.trans hG hw | exact Grow.refl _))
  (try clear hw); (try clear hR); (try clear hI); (try clear hZ); (try clear hs0); (try clear hB); (try clear hG)
  intro W hB hG
  try simp (disch := omega) only [List.map_cons, List.map_nil, List.setIfInBounds_toArray, List.set_cons_zero, List.set_cons_succ, World.size_alloc, if_pos, if_neg, if_false, if_true] at hB
  have hR := hB.rules
  simp only [RulesAt] at hR
  have hZ := hB.lts
  simp only [LtsAt] at hZ
  have hs0 := hG.size
  have hI := Grow.refl W
  have hGo := G_one (afterOp g n 3 6 cut)
  have hGb : Hid ((G (afterOp g n 3 6 cut)).size = 21) := G_size _
  replace hB : Blocks W [_, (w.heap.size, G (afterOp g n 3 6 cut), 28)] := hB
  try simp (disch := omega) only [List.map_cons, List.map_nil, List.setIfInBounds_toArray, List.set_cons_zero, List.set_cons_succ, World.size_alloc, if_pos, if_neg, if_false, if_true] at hB
  have hR := hB.rules
  simp only [RulesAt] at hR
  have hZ := hB.lts
  simp only [LtsAt] at hZ
  have hs0 := hG.size
  have hI := Grow.refl W
  go_wp2_with (with_reducible apply wl_load_rowG (i := 1))
  case hx => rfl
  (try case hg => rfl)
  case hB => first | exact hB | exact hB.grow hw
  case hi => rfl
  case hcs => (first | assumption | rfl | (simp; done) | (simp; assumption))
  case hrow => kernel_rfl
  intro _
  simp only [Act.put]
  go_wp2_with (with_reducible apply wl_store_row2 (i := 0))
  case hx => rfl
  case hy => rfl
  case hB => first | exact hB | exact hB.grow hw
  case hG => first | exact hG | exact hG.trans hw
  case hi => rfl
  case hcl => (first | assumption | rfl | (simp; done) | (simp; assumption))
  case hcs => (first | assumption | rfl | (simp; done) | (simp; assumption))
  case hrow => kernel_rfl
  case h1 => first | assumption | exact all_ints _ _ | simp [Value.oneCell']
  case hb0 => (first | exact Nat.le_refl _ | omega)
  (try clear hw); (try clear hR); (try clear hI); (try clear hZ); (try clear hs0); (try clear hB); (try clear hG)
  intro W hB hG
  try simp (disch := omega) only [List.map_cons, List.map_nil, List.setIfInBounds_toArray, List.set_cons_zero, List.set_cons_succ, World.size_alloc, if_pos, if_neg, if_false, if_true] at hB
  have hR := hB.rules
  simp only [RulesAt] at hR
  have hZ := hB.lts
  simp only [LtsAt] at hZ
  have hs0 := hG.size
  have hI := Grow.refl W
  simp only [Act.put]
  go_wp2
  (try simp only [Exit.inBlock, Exit.then])
  apply post_row (i := 0)
  case hr => rfl
  case hp => rfl
  case hB => first | exact hB | exact hB.grow hw
  case hi => rfl
  case hcs => (first | assumption | rfl | (simp; done) | (simp; assumption))
  case hrow => kernel_rfl
  case hd => rfl
  exact ⟨rfl, hG⟩

theorem Behind_any (g : Grp) (n op member cut : Int) (w : World) : BehindSays g n op member cut w := by
  cases hn : isW n
  · exact behind_no g n op member cut w hn
  cases hf : formed op member
  · exact behind_no2 g n op member cut w hn hf
  have h : op = 1 ∨ op = 4 ∨ op = 2 ∨ op = 3 ∨ op = 5 := by
    simp only [formed] at hf
    split at hf
    · omega
    · split at hf
      · omega
      · cases hf
  rcases h with rfl | rfl | rfl | rfl | rfl
  · rcases isW_cases hn with rfl | rfl | rfl | rfl | rfl | rfl
    · exact behind_1_1 g member cut w hn hf
    · exact behind_1_2 g member cut w hn hf
    · exact behind_1_3 g member cut w hn hf
    · exact behind_1_4 g member cut w hn hf
    · exact behind_1_5 g member cut w hn hf
    · exact behind_1_6 g member cut w hn hf
  · exact behind_4 g n member cut w hn hf
  · rcases isW_cases (show isW member = true from hf) with rfl | rfl | rfl | rfl | rfl | rfl
    · exact behind_2_1 g n cut w hn hf
    · exact behind_2_2 g n cut w hn hf
    · exact behind_2_3 g n cut w hn hf
    · exact behind_2_4 g n cut w hn hf
    · exact behind_2_5 g n cut w hn hf
    · exact behind_2_6 g n cut w hn hf
  · rcases isW_cases (show isW member = true from hf) with rfl | rfl | rfl | rfl | rfl | rfl
    · exact behind_3_1 g n cut w hn hf
    · exact behind_3_2 g n cut w hn hf
    · exact behind_3_3 g n cut w hn hf
    · exact behind_3_4 g n cut w hn hf
    · exact behind_3_5 g n cut w hn hf
    · exact behind_3_6 g n cut w hn hf
  · exact behind_5 g n member cut w hn hf
end Go.Proofs.Ytngboefkhfldgaa
