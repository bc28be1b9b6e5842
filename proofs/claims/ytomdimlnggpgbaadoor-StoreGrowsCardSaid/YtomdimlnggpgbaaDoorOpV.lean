/- How slices of bytes in a slice read. -/
import Derived.Test.YtomdimlnggpgbaaDoorOpU
set_option linter.unusedSimpArgs false
set_option linter.unusedVariables false
set_option linter.constructorNameAsVariable false
namespace Go.Sx
open Go Go.ChangeShapes Go.WideShapes Go.ChangeAt Go.RowKit Go.Deep

section
variable {H : Type} {enc : TypeId × Value → H} {P : Program} {W : World} {base : Nat} {spare : Nat → Bool} {held : Bool} {d : DataW H} {p : List MemPlace}
/-- A slice of slices of bytes reads as these. -/
theorem slB_of {t e e2 : TypeId} {dp : Nat} (ht : P.underlying t = some (.slice e)) (he : P.underlying e = some (.slice e2)) (hk : kindsT P dp e2 = some [.int .u8]) (hC : P.cellsOf e = 1) (hC2 : P.cellsOf e2 = 1) {v : Value} (hv : ∃ a l c, v = .slice a l c) (h : DataW.Trod enc P W base spare held t v d p) :
    ∃ (us : List Value) (rows : List (List Int)) (x y : Int) (c : Nat), v = .slice (slP x y) us.length c ∧ 0 ≤ y ∧ us.length = rows.length ∧ (∀ (j : Nat) (u : Value), us[j]? = some u → 0 ≤ x ∧ (Hl.all W).cell x.toNat (y.toNat + j) = some u) ∧ (∀ (j : Nat) (u : Value) (r : List Int), us[j]? = some u → rows[j]? = some r → RdW (Hl.all W) u r) ∧ ∀ r ∈ rows, ∀ b ∈ r, 0 ≤ b ∧ b < 256 := by
  obtain ⟨a0, len0, cap0, rfl⟩ := hv
  obtain ⟨fuel, hf⟩ := h
  rcases open_slice ht hf with h | ⟨a, len, cap, m, n, D, Pl, hcs, hb, hl, hm, hmm, hx, hi⟩
  · have h := h.1
    simp only [Value.cells, List.cons.injEq, Value.slice.injEq, and_true] at h
    obtain ⟨rfl, rfl, rfl⟩ := h
    exact ⟨[], [], -1, 0, 0, rfl, by omega, rfl, (fun _ _ h => nomatch h), (fun _ _ _ h => nomatch h), fun _ h => nomatch h⟩
  · simp only [Value.cells, List.cons.injEq, Value.slice.injEq, and_true] at hcs
    obtain ⟨rfl, rfl, rfl⟩ := hcs
    have hlm : len0 ≤ m := by rw [hmm]; split <;> omega
    have each : ∀ i, i < len0 → ∃ (u : Value) (bs : List Int), W.cell? (a.add i) = some u ∧ RdW (Hl.all W) u bs ∧ ∀ b ∈ bs, 0 ≤ b ∧ b < 256 := by
      intro i hil
      obtain ⟨cs', hc, ht'⟩ := hi i (by omega)
      rw [hC, Nat.mul_one] at hc
      obtain ⟨_, hcl, hat⟩ := World.cells?_some hc
      obtain ⟨u, rfl, hu⟩ : ∃ u, cs' = [u] ∧ ∃ a l c, u = .slice a l c := by
        rcases open_slice he ht' with h | ⟨a, len, cap, m, n, D, Pl, hcs, _⟩
        · exact ⟨_, h.1, _, _, _, rfl⟩
        · exact ⟨_, hcs, _, _, _, rfl⟩
      have h0 := hat 0 (by omega)
      have ha : (a.add i).add 0 = a.add i := by
        obtain ⟨blk, off, spot⟩ := a
        cases spot <;> simp [Addr.add]
      rw [ha] at h0
      obtain ⟨a1, l1, c1, rfl⟩ := hu
      obtain ⟨bs, hr, hb⟩ := bytes_of (enc := enc) (W := W) (base := base) (spare := spare) (held := held) he hk hC2 ⟨a1, l1, c1, rfl⟩ ⟨n, by simpa [Value.cells] using ht'⟩
      exact ⟨_, bs, by simpa using h0, hr, hb⟩
    rcases Nat.eq_zero_or_pos len0 with h0 | h0
    · subst h0
      obtain ⟨x, y, hx, hy, _⟩ := slP_all (some a)
      exact ⟨[], [], x, y, cap0, by rw [hx]; rfl, hy, rfl, (fun _ _ h => nomatch h), (fun _ _ _ h => nomatch h), fun _ h => nomatch h⟩
    · have hsp : a.spot = none := by
        obtain ⟨u, bs, hc, _⟩ := each 0 h0
        simp only [Addr.add, if_true] at hc
        exact cell_spot hc
      obtain ⟨blk, off, spot⟩ := a
      simp only at hsp
      subst hsp
      classical
      let un : Nat → Value := fun i => if h : i < len0 then (each i h).choose else .bool false
      let bn : Nat → List Int := fun i => if h : i < len0 then (each i h).choose_spec.choose else []
      have hub : ∀ i, i < len0 → W.cell? ⟨blk, off + i, none⟩ = some (un i) ∧ RdW (Hl.all W) (un i) (bn i) ∧ ∀ b ∈ bn i, 0 ≤ b ∧ b < 256 := by
        intro i hil
        have := (each i hil).choose_spec.choose_spec
        simp only [un, bn, dif_pos hil]
        refine ⟨?_, this.2⟩
        rw [← addr_add]
        exact this.1
      have get : ∀ (j : Nat) (u : Value), ((List.range len0).map un)[j]? = some u → j < len0 ∧ u = un j := by
        intro j u hj
        have hl : j < len0 := by have := (List.getElem?_eq_some_iff.1 hj).1; simpa using this
        rw [List.getElem?_map, List.getElem?_range hl, Option.map_some, Option.some.injEq] at hj
        exact ⟨hl, hj.symm⟩
      refine ⟨(List.range len0).map un, (List.range len0).map bn, blk, off, cap0, ?_, by omega, by simp, fun j u hj => ?_, fun j u r hj hr => ?_, fun r hr => ?_⟩
      · rw [slP_pos (by omega), List.length_map, List.length_range]; rfl
      · obtain ⟨hl, rfl⟩ := get j u hj
        refine ⟨by omega, ?_⟩
        simp only [Int.toNat_natCast]
        exact all_cell (hub j hl).1
      · obtain ⟨hl, rfl⟩ := get j u hj
        rw [List.getElem?_map, List.getElem?_range hl, Option.map_some, Option.some.injEq] at hr
        subst hr
        exact (hub j hl).2.1
      · obtain ⟨i, hi, rfl⟩ := List.mem_map.1 hr
        exact (hub i (List.mem_range.1 hi)).2.2
end
end Go.Sx
