/- How bytes that are given read; bytes and small numbers as arguments. -/
import Derived.Test.YtomdimlnggpgbaaDoorOpR
set_option linter.unusedSimpArgs false
set_option linter.unusedVariables false
set_option linter.constructorNameAsVariable false
namespace Go.Sx
open Go Go.ChangeShapes Go.WideShapes Go.ChangeAt Go.RowKit Go.Deep

section
variable {H : Type} {enc : TypeId × Value → H} {P : Program} {W : World} {base : Nat} {spare : Nat → Bool} {held : Bool} {d : DataW H} {p : List MemPlace}
/-- A slice of bytes reads as bytes. -/
theorem bytes_of {t e : TypeId} {dp : Nat} (ht : P.underlying t = some (.slice e)) (hk : kindsT P dp e = some [.int .u8]) (hC : P.cellsOf e = 1) {v : Value} (hv : ∃ a l c, v = .slice a l c) (h : DataW.Trod enc P W base spare held t v d p) :
    ∃ bs, RdW (Hl.all W) v bs ∧ ∀ b ∈ bs, 0 ≤ b ∧ b < 256 := by
  obtain ⟨a0, len0, cap0, rfl⟩ := hv
  obtain ⟨fuel, hf⟩ := h
  rcases open_rows ht hk hC hf with h | ⟨a, len, cap, hcs, hl, hc, hat⟩
  · simp only [Value.cells, List.cons.injEq, Value.slice.injEq, and_true] at h
    obtain ⟨rfl, rfl, rfl⟩ := h
    exact ⟨[], ⟨-1, 0, 0, rfl, by omega, Or.inl rfl⟩, fun _ h => nomatch h⟩
  · simp only [Value.cells, List.cons.injEq, Value.slice.injEq, and_true] at hcs
    obtain ⟨rfl, rfl, rfl⟩ := hcs
    rcases Nat.eq_zero_or_pos len0 with h0 | h0
    · subst h0
      obtain ⟨x, y, hx, hy, _⟩ := slP_all (some a)
      exact ⟨[], ⟨x, y, cap0, by rw [hx]; rfl, hy, Or.inl rfl⟩, fun _ h => nomatch h⟩
    · have hcell : ∀ i, i < len0 → ∃ n, W.cell? (a.add i) = some (.int .u8 n) ∧ 0 ≤ n ∧ n < 256 := by
        intro i hi
        obtain ⟨v, hv, ho⟩ := hat i hi 0 _ rfl
        obtain ⟨n, rfl, hw⟩ := ho
        refine ⟨n, ?_, u8_wf hw⟩
        rw [show i = i * ([Kd.int .u8] : List Kd).length + 0 by simp]; exact hv
      have hsp : a.spot = none := by
        obtain ⟨n, hn, _⟩ := hcell 0 h0
        simp only [Addr.add, if_true, Nat.add_zero] at hn
        exact cell_spot hn
      obtain ⟨blk, off, spot⟩ := a
      simp only at hsp
      subst hsp
      have hget : ∀ j z, ((List.range len0).map fun i => valI (W.cell? ⟨blk, off + i, none⟩))[j]? = some z → W.cell? ⟨blk, off + j, none⟩ = some (.int .u8 z) ∧ 0 ≤ z ∧ z < 256 := by
        intro j z hz
        have hj : j < len0 := by have := (List.getElem?_eq_some_iff.1 hz).1; simpa using this
        rw [List.getElem?_map, List.getElem?_range hj] at hz
        simp only [Option.map_some, Option.some.injEq] at hz
        obtain ⟨n, hn, hr⟩ := hcell j hj
        rw [addr_add] at hn
        rw [hn] at hz
        have hz : n = z := hz
        subst hz
        exact ⟨hn, hr⟩
      refine ⟨(List.range len0).map fun i => valI (W.cell? ⟨blk, off + i, none⟩), ⟨blk, off, cap0, ?_, by omega, Or.inr ⟨by omega, fun j z hz => ?_⟩⟩, fun b hb => ?_⟩
      · rw [slP_pos (by omega), List.length_map, List.length_range]; rfl
      · simp only [Int.toNat_natCast]
        exact all_cell (hget j z hz).1
      · obtain ⟨j, hj⟩ := List.mem_iff_getElem?.1 hb
        exact (hget j b hj).2
/-- A byte. -/
theorem u8_of {t : TypeId} (ht : P.underlying t = some (.int .u8)) {n : Int} (h : DataW.Trod enc P W base spare held t (.int .u8 n) d p) : 0 ≤ n ∧ n < 256 := by
  obtain ⟨fuel, hf⟩ := h
  obtain ⟨m, hn, _, hw⟩ := DataW.trod_int ht hf
  simp only [Value.cells, List.cons.injEq, Value.int.injEq, true_and, and_true] at hn
  subst hn
  exact u8_wf hw
end
end Go.Sx
