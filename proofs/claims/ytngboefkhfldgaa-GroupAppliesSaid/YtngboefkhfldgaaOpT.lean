/- How slices of structs that hold slices read as rows. -/
import Derived.Test.YtngboefkhfldgaaOpR
import Derived.Test.YtngboefkhfldgaaOpen2
import Derived.ProofKit
import Derived.OpenShut
import Derived.Deep.Slices
import Derived.ChangeSame
set_option linter.unusedSimpArgs false
set_option linter.unusedVariables false
set_option linter.constructorNameAsVariable false
namespace Go.Sx
open Go Go.ChangeShapes Go.WideShapes Go.ChangeAt Go.RowKit Go.Deep

def ktKd : Ex.Kt → Kd
  | .int k => .int k
  | .bool => .bool
  | .other _ => .slice
theorem rowOK_kt {Φ : Value → TypeId → Prop} (hΦ : Ex.SlOK Φ) : ∀ {row : List Value} {ks : List Ex.Kt}, Ex.okKs Φ row ks → rowOK row (ks.map ktKd)
  | [], [], _ => trivial
  | v :: row, k :: ks, h => by
    refine ⟨?_, rowOK_kt hΦ h.2⟩
    have h1 := h.1
    cases k with
    | int k => obtain ⟨n, rfl, _⟩ := h1; simp [valIs, ktKd]
    | bool => obtain ⟨b, rfl⟩ := h1; rfl
    | other t => obtain ⟨a, l, c, rfl⟩ := hΦ v t h1; rfl
  | [], _ :: _, h => h.elim
  | _ :: _, [], h => h.elim
section
variable {H : Type} {enc : TypeId × Value → H} {P : Program} {W : World} {base : Nat} {spare : Nat → Bool} {held : Bool} {d : DataW H} {p : List MemPlace}
/-- A slice of structs that hold slices reads as rows. -/
theorem rdRowsT {t e : TypeId} {ks : List Ex.Kt} {dp : Nat} (ht : P.underlying t = some (.slice e)) (hk : Ex.kindsT2 P dp e = some ks) (hC : P.cellsOf e = ks.length) (hks : 0 < ks.length) {v : Value} (hv : ∃ a l c, v = .slice a l c) (h : DataW.Trod enc P W base spare held t v d p) :
    ∃ rows, RdRows (Hl.all W) v (ks.map ktKd) rows ∧ ∀ row ∈ rows, Ex.okKs (Ex.trodΦ enc P W base spare held) row ks := by
  obtain ⟨a0, len0, cap0, rfl⟩ := hv
  obtain ⟨fuel, hf⟩ := h
  rcases open_slice ht hf with h | ⟨a, len, cap, m, n, D, Pl, hcs, hb, hl, hm, hmm, hx, hi⟩
  · have h := h.1
    simp only [Value.cells, List.cons.injEq, Value.slice.injEq, and_true] at h
    obtain ⟨rfl, rfl, rfl⟩ := h
    exact ⟨[], ⟨-1, 0, 0, rfl, by omega, Or.inl rfl⟩, fun _ h => nomatch h⟩
  · simp only [Value.cells, List.cons.injEq, Value.slice.injEq, and_true] at hcs
    obtain ⟨rfl, rfl, rfl⟩ := hcs
    have hlm : len0 ≤ m := by rw [hmm]; split <;> omega
    have each : ∀ i, i < len0 → ∃ row, row.length = ks.length ∧ Ex.okKs (Ex.trodΦ enc P W base spare held) row ks ∧ ∀ j, j < ks.length → W.cell? ((a.add (i * ks.length)).add j) = row[j]? := by
      intro i hil
      obtain ⟨cs', hc, ht'⟩ := hi i (by omega)
      rw [hC] at hc
      obtain ⟨_, hcl, hat⟩ := World.cells?_some hc
      exact ⟨cs', hcl, Ex.trod_kinds2 dp e ks n cs' _ hk ht', fun j hj => hat j hj⟩
    rcases Nat.eq_zero_or_pos len0 with h0 | h0
    · subst h0
      obtain ⟨x, y, hx, hy, _⟩ := slP_all (some a)
      exact ⟨[], ⟨x, y, cap0, by rw [hx]; rfl, hy, Or.inl rfl⟩, fun _ h => nomatch h⟩
    · have hsp : a.spot = none := by
        obtain ⟨row, hl', _, hc⟩ := each 0 h0
        have := hc 0 hks
        simp only [Nat.zero_mul, Addr.add, if_true] at this
        rw [List.getElem?_eq_getElem (by omega)] at this
        exact cell_spot this
      obtain ⟨blk, off, spot⟩ := a
      simp only at hsp
      subst hsp
      classical
      let row : Nat → List Value := fun i => if h : i < len0 then (each i h).choose else []
      have hrow : ∀ i, i < len0 → (row i).length = ks.length ∧ Ex.okKs (Ex.trodΦ enc P W base spare held) (row i) ks ∧ ∀ j, j < ks.length → W.cell? ⟨blk, off + i * ks.length + j, none⟩ = (row i)[j]? := by
        intro i hil
        have := (each i hil).choose_spec
        simp only [row, dif_pos hil]
        refine ⟨this.1, this.2.1, fun j hj => ?_⟩
        rw [← this.2.2 j hj, addr_add, addr_add]
      refine ⟨(List.range len0).map row, ⟨blk, off, cap0, ?_, by omega, Or.inr ⟨by omega, fun i r hr => ?_⟩⟩, fun r hr => ?_⟩
      · rw [slP_pos (by omega), List.length_map, List.length_range]; rfl
      · have hil : i < len0 := by have := (List.getElem?_eq_some_iff.1 hr).1; simpa using this
        rw [List.getElem?_map, List.getElem?_range hil, Option.map_some, Option.some.injEq] at hr
        subst hr
        obtain ⟨h1, h2, h3⟩ := hrow i hil
        refine ⟨rowOK_kt Ex.trodΦ_sl h2, fun j u hu => ?_⟩
        rw [Int.toNat_natCast, Int.toNat_natCast, List.length_map]
        have hj : j < ks.length := by rw [← h1]; exact (List.getElem?_eq_some_iff.1 hu).1
        exact all_cell (by rw [h3 j hj]; exact hu)
      · obtain ⟨i, hil, rfl⟩ := List.mem_map.1 hr
        exact (hrow i (List.mem_range.1 hil)).2.1
end
end Go.Sx
