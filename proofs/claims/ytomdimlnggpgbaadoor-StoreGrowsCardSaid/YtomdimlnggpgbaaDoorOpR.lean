/- How slices of structs read as rows; what a law's contract says of a call. -/
import Derived.Test.YtomdimlnggpgbaaDoorOpS
import Derived.Test.YtomdimlnggpgbaaDoorSxF
import Derived.ProofKit
import Derived.OpenShut
import Derived.Deep.Slices
import Derived.ChangeSame
set_option linter.unusedSimpArgs false
set_option linter.unusedVariables false
set_option linter.constructorNameAsVariable false
namespace Go.Sx
open Go Go.ChangeShapes Go.WideShapes Go.ChangeAt Go.RowKit Go.Deep

theorem u64_wf {n : Int} (h : (Lit.int .u64 n).wf = true) : 0 ≤ n ∧ n < 18446744073709551616 := by
  simp only [Lit.wf, IntKind.min, IntKind.max, IntKind.signed, IntKind.bits, Bool.and_eq_true, decide_eq_true_eq] at h
  simp at h
  omega
theorem u8_wf {n : Int} (h : (Lit.int .u8 n).wf = true) : 0 ≤ n ∧ n < 256 := by
  simp only [Lit.wf, IntKind.min, IntKind.max, IntKind.signed, IntKind.bits, Bool.and_eq_true, decide_eq_true_eq] at h
  simp at h
  omega
theorem i64_wf {n : Int} (h : (Lit.int .i64 n).wf = true) : -9223372036854775808 ≤ n ∧ n < 9223372036854775808 := by
  simp only [Lit.wf, IntKind.min, IntKind.max, IntKind.signed, IntKind.bits, Bool.and_eq_true, decide_eq_true_eq] at h
  simp at h
  omega
theorem rowOK_of : ∀ {row : List Value} {ks : List Kd}, okCs row ks → rowOK row ks
  | [], [], _ => trivial
  | _ :: _, _ :: _, h => ⟨okC_valIs h.1, rowOK_of h.2⟩
  | [], _ :: _, h => h.elim
  | _ :: _, [], h => h.elim
theorem okCs_of_get : ∀ {ks : List Kd} {row : List Value}, row.length = ks.length → (∀ (j : Nat) (k : Kd), ks[j]? = some k → ∃ v, row[j]? = some v ∧ okC v k) → okCs row ks
  | [], [], _, _ => trivial
  | k :: ks, v :: row, hl, h => by
    refine ⟨?_, okCs_of_get (by simpa using hl) fun j k' hj => ?_⟩
    · obtain ⟨u, hu, ho⟩ := h 0 k rfl
      simp at hu; subst hu; exact ho
    · have := h (j + 1) k' (by simpa using hj)
      simpa using this
  | [], _ :: _, hl, _ => by simp at hl
  | _ :: _, [], hl, _ => by simp at hl
section
variable {H : Type} {enc : TypeId × Value → H} {P : Program} {W : World} {base : Nat} {spare : Nat → Bool} {held : Bool} {d : DataW H} {p : List MemPlace}
/-- What is in a cell of the whole memory. -/
theorem all_cell {b y : Nat} {v : Value} (h : W.cell? ⟨b, y, none⟩ = some v) : (Hl.all W).cell b y = some v := by
  unfold Hl.cell Hl.all
  unfold World.cell? at h
  split at h
  · rename_i c T fr hb
    rw [hb]
    simpa using h
  · cases h
theorem cell_spot {a : Addr} {v : Value} (hv : W.cell? a = some v) : a.spot = none := by
  unfold World.cell? at hv
  split at hv
  · split at hv
    · cases hv
    · rename_i h; simpa using h
  · cases hv
/-- A slice of structs of integers and bools reads as rows. -/
theorem rdRows_of {t e : TypeId} {ks : List Kd} {dp : Nat} (ht : P.underlying t = some (.slice e)) (hk : kindsT P dp e = some ks) (hC : P.cellsOf e = ks.length) (hks : 0 < ks.length) {v : Value} (hv : ∃ a l c, v = .slice a l c) (h : DataW.Trod enc P W base spare held t v d p) :
    ∃ rows, RdRows (Hl.all W) v ks rows ∧ ∀ row ∈ rows, okCs row ks := by
  obtain ⟨a0, len0, cap0, rfl⟩ := hv
  obtain ⟨fuel, hf⟩ := h
  rcases open_rows ht hk hC hf with h | ⟨a, len, cap, hcs, hl, hc, hat⟩
  · simp only [Value.cells, List.cons.injEq, Value.slice.injEq, and_true] at h
    obtain ⟨rfl, rfl, rfl⟩ := h
    exact ⟨[], ⟨-1, 0, 0, rfl, by omega, Or.inl rfl⟩, fun _ h => nomatch h⟩
  · simp only [Value.cells, List.cons.injEq, Value.slice.injEq, and_true] at hcs
    obtain ⟨rfl, rfl, rfl⟩ := hcs
    rcases Nat.eq_zero_or_pos len0 with h0 | h0
    · subst h0
      obtain ⟨x, y, hx, hy, _⟩ := slP_all (some a)
      exact ⟨[], ⟨x, y, cap0, by rw [hx]; rfl, hy, Or.inl rfl⟩, fun _ h => nomatch h⟩
    · have hsp : a.spot = none := by
        obtain ⟨v, hv, _⟩ := hat 0 h0 0 ks[0] (List.getElem?_eq_getElem hks)
        simp only [Nat.zero_mul, Nat.add_zero, Addr.add, if_true] at hv
        exact cell_spot hv
      obtain ⟨blk, off, spot⟩ := a
      simp only at hsp
      subst hsp
      let row : Nat → List Value := fun i => (List.range ks.length).map fun j => (W.cell? ⟨blk, off + (i * ks.length + j), none⟩).getD (.bool false)
      have hrow : ∀ i, i < len0 → okCs (row i) ks ∧ ∀ j u, (row i)[j]? = some u → W.cell? ⟨blk, off + (i * ks.length + j), none⟩ = some u := by
        intro i hi
        have hg : ∀ (j : Nat) (k : Kd), ks[j]? = some k → ∃ v, (row i)[j]? = some v ∧ W.cell? ⟨blk, off + (i * ks.length + j), none⟩ = some v ∧ okC v k := by
          intro j k hj
          obtain ⟨v, hv, ho⟩ := hat i hi j k hj
          rw [addr_add] at hv
          have hjl : j < ks.length := (List.getElem?_eq_some_iff.1 hj).1
          refine ⟨v, ?_, hv, ho⟩
          simp only [row, List.getElem?_map, List.getElem?_range hjl, Option.map_some, hv, Option.getD_some]
        refine ⟨okCs_of_get (by simp [row]) fun j k hj => ?_, fun j u hu => ?_⟩
        · obtain ⟨v, h1, _, h2⟩ := hg j k hj; exact ⟨v, h1, h2⟩
        · have hjl : j < ks.length := by have := (List.getElem?_eq_some_iff.1 hu).1; simpa [row] using this
          obtain ⟨v, h1, h2, _⟩ := hg j ks[j] (List.getElem?_eq_getElem hjl)
          rw [hu] at h1; cases h1; exact h2
      refine ⟨(List.range len0).map row, ⟨blk, off, cap0, ?_, by omega, Or.inr ⟨by omega, fun i r hr => ?_⟩⟩, fun r hr => ?_⟩
      · rw [slP_pos (by omega), List.length_map, List.length_range]; rfl
      · have hi : i < len0 := by have := (List.getElem?_eq_some_iff.1 hr).1; simpa using this
        rw [List.getElem?_map, List.getElem?_range hi, Option.map_some, Option.some.injEq] at hr
        subst hr
        obtain ⟨h1, h2⟩ := hrow i hi
        refine ⟨rowOK_of h1, fun j u hu => ?_⟩
        rw [Int.toNat_natCast, Int.toNat_natCast, Nat.add_assoc]
        exact all_cell (h2 j u hu)
      · obtain ⟨i, hi, rfl⟩ := List.mem_map.1 hr
        exact (hrow i (List.mem_range.1 hi)).1
end
/-- A law's contract: what a call of it comes to. -/
theorem spec_yes {P : Program} {s : Spec} (h : s.OK P) (ho : s.own = []) {W : World} {xs : List Value} (hpre : s.pre xs [] (List.replicate s.rd.length (Hl.all W)))
    (hpost : ∀ ρ F, s.post xs [] (List.replicate s.rd.length (Hl.all W)) ((cpTV 0 s.res).ev ρ) [] F → (cpTV 0 s.res).ev ρ = .bool true) :
    Calls P s.fn xs.toArray W fun e w' => e = .returned (.bool true) ∧ Below W.heap.size W w' := by
  have := h W xs [] (List.replicate s.rd.length (Hl.all W)) (by rw [ho]; rfl) (by simp) (fun _ h => nomatch h) (fun R hR => by rw [(List.mem_replicate.1 hR).2]; exact Hl.all_sub W) (fun p _ H _ _ h => by simp at h) (fun _ h => nomatch h) hpre
  refine this.mono ?_
  rintro e w' ⟨ρ, Hs', F, rfl, _, ht, hp⟩
  have e0 : Hs' = [] := List.length_eq_zero_iff.1 ht.len
  subst e0
  exact ⟨by rw [hpost ρ F hp], ⟨ht.os, ht.tape, ht.output, ht.size, fun b hb => ht.block b hb (fun _ h => nomatch h)⟩⟩
end Go.Sx
