/- Layer 9: what the listed variables give: three errors, each at a place of its own. No condition. -/
import Derived.Test.YtomdimlnggpgbaaDoorStF
import Derived.Test.YtomdimlnggpgbaaDoorRows
import Derived.ProofKit
import Derived.LaidMore
import Derived.LaidHandle
import Derived.OpenShut
import Derived.Stop.Joined
import Derived.Stop.LaidErr
set_option linter.unusedSimpArgs false
set_option linter.unusedVariables false
set_option linter.constructorNameAsVariable false
namespace Go.Proofs.YtomdimlnggpgbaaDoor
open Go Go.Sx Go.Pk Go.RowKit

def laid3 : List (String × DataW Unit) := [("jalousie/store.errLost", Rows.laid_jalousie_store_errLost), ("jalousie/store.errFull", Rows.laid_jalousie_store_errFull), ("jalousie/store.errSpent", Rows.laid_jalousie_store_errSpent)]
theorem gN0 : Tryd.prog.globalNamed "jalousie/store.errLost" = some 0 := by kernel_rfl
theorem gN1 : Tryd.prog.globalNamed "jalousie/store.errFull" = some 1 := by kernel_rfl
theorem gN2 : Tryd.prog.globalNamed "jalousie/store.errSpent" = some 2 := by kernel_rfl
theorem gT0 : (Tryd.prog.globals[0]?).map (·.type) = some 74 := by kernel_rfl
theorem gT1 : (Tryd.prog.globals[1]?).map (·.type) = some 74 := by kernel_rfl
theorem gT2 : (Tryd.prog.globals[2]?).map (·.type) = some 74 := by kernel_rfl
theorem gCells : Tryd.prog.cellsOf 232 = 1 := by kernel_rfl
theorem gCellsS : Tryd.prog.cellsOf 9 = 1 := by kernel_rfl
theorem gStar : "*" ++ "errors.errorString" = "*errors.errorString" := by decide
theorem gRow (u : TypeId) (h : Tryd.prog.typeName? 3 u = some "*errors.errorString") : u = 206 :=
  typeName_ptr_named (nm := "errors.errorString") (by rw [gStar]; kernel_rfl) (by kernel_rfl) (by decide) u (by rw [gStar]; exact h)
set_option maxRecDepth 100000 in
/-- The listed variables: three places that differ. -/
theorem gl_of_laid {W : World} (h : laidMetH Tryd.prog laid3 W) : ∃ a, Gl (Hl.all W) a := by
  rw [MakeChecks.laidMetH_plain _ _ _ (by kernel_rfl)] at h
  obtain ⟨ps, ⟨g0, t0, cs0, f0, p0, q0, hg0, ht0, hv0, hd0, ⟨g1, t1, cs1, f1, p1, q1, hg1, ht1, hv1, hd1, ⟨g2, t2, cs2, f2, p2, q2, hg2, ht2, hv2, hd2, _, e2⟩, e1⟩, e0⟩, hnd, hrows⟩ := h
  obtain rfl := Option.some.inj (gN0.symm.trans hg0)
  obtain rfl := Option.some.inj (gN1.symm.trans hg1)
  obtain rfl := Option.some.inj (gN2.symm.trans hg2)
  obtain rfl := Option.some.inj (gT0.symm.trans ht0)
  obtain rfl := Option.some.inj (gT1.symm.trans ht1)
  obtain rfl := Option.some.inj (gT2.symm.trans ht2)
  subst e2
  subst e1
  subst e0
  obtain ⟨l0⟩ := cs0
  obtain ⟨l1⟩ := cs1
  obtain ⟨l2⟩ := cs2
  have ok0 : ∀ u v, l0 = [.iface u v] → Value.okWide Tryd.prog W .any 0 u v := fun u v e => by
    subst e
    exact (hrows 0 0 (by simp [MemPlace.row])).2 u v (by simpa using World.var?_cell hg0 hv0 0)
  have ok1 : ∀ u v, l1 = [.iface u v] → Value.okWide Tryd.prog W .any 0 u v := fun u v e => by
    subst e
    exact (hrows 1 0 (by simp [MemPlace.row])).2 u v (by simpa using World.var?_cell hg1 hv1 0)
  have ok2 : ∀ u v, l2 = [.iface u v] → Value.okWide Tryd.prog W .any 0 u v := fun u v e => by
    subst e
    exact (hrows 2 0 (by simp [MemPlace.row])).2 u v (by simpa using World.var?_cell hg2 hv2 0)
  obtain ⟨a0, s0, rfl, hc0, hs0, hz0, rfl⟩ := errorString_of_trod Tryd.underlying74 gRow Tryd.underlying206 Tryd.underlying232 rfl rfl Tryd.underlying9 gCells gCellsS hd0 ok0
  obtain ⟨a1, s1, rfl, hc1, hs1, hz1, rfl⟩ := errorString_of_trod Tryd.underlying74 gRow Tryd.underlying206 Tryd.underlying232 rfl rfl Tryd.underlying9 gCells gCellsS hd1 ok1
  obtain ⟨a2, s2, rfl, hc2, hs2, hz2, rfl⟩ := errorString_of_trod Tryd.underlying74 gRow Tryd.underlying206 Tryd.underlying232 rfl rfl Tryd.underlying9 gCells gCellsS hd2 ok2
  obtain ⟨b0, y0, hb0⟩ := (hrows a0.block a0.off (by simp [MemPlace.row])).1
  obtain ⟨b1, y1, hb1⟩ := (hrows a1.block a1.off (by simp [MemPlace.row])).1
  obtain ⟨b2, y2, hb2⟩ := (hrows a2.block a2.off (by simp [MemPlace.row])).1
  have n01 : a0 ≠ a1 := by rintro rfl; simp [MemPlace.row] at hnd
  have n02 : a0 ≠ a2 := by rintro rfl; simp [MemPlace.row] at hnd
  have n12 : a1 ≠ a2 := by rintro rfl; simp [MemPlace.row] at hnd
  have cell : ∀ {g : Nat} {v : Value}, W.cell? ⟨g, 0, none⟩ = some v → (Hl.all W).cell g 0 = some v := by
    intro g v h
    unfold World.cell? at h
    unfold Hl.cell Hl.all
    cases hh : W.heap[g]? with
    | none => simp [hh] at h
    | some o => cases o <;> simp_all
  have c0 := cell (World.var?_cell hg0 hv0 0)
  have c1 := cell (World.var?_cell hg1 hv1 0)
  have c2 := cell (World.var?_cell hg2 hv2 0)
  refine ⟨fun g => if g = gLost then a0 else if g = gFull then a1 else a2, fun g hg => ?_, fun g hg => ?_, fun g h hg hh hne => ?_⟩
  · rcases hg with rfl | rfl | rfl
    · exact c0
    · exact c1
    · exact c2
  · rcases hg with rfl | rfl | rfl
    · exact ⟨b0, y0, hb0⟩
    · exact ⟨b1, y1, hb1⟩
    · exact ⟨b2, y2, hb2⟩
  · rcases hg with rfl | rfl | rfl <;> rcases hh with rfl | rfl | rfl
    · exact absurd rfl hne
    · exact n01
    · exact n02
    · exact fun e => n01 e.symm
    · exact absurd rfl hne
    · exact n12
    · exact fun e => n02 e.symm
    · exact fun e => n12 e.symm
    · exact absurd rfl hne
/-- The door's own run meets the list. -/
theorem door_met (os : Os) (args : Array Value) : laidMetH Tryd.prog laid3 ((World.doorLaid Tryd.prog 400 os).forCall (fun _ _ => 0) ⟨#[], args, []⟩).memory :=
  laidMetH_of_parts3 (fuel := 8) (laidMet_of_run' 8 (by kernel_rfl) (by kernel_rfl)) (by kernel_rfl) (by kernel_rfl)
end Go.Proofs.YtomdimlnggpgbaaDoor
