/- How slices of structs that hold slices read as rows, with the reach of each slice. -/
import Derived.Test.YtnpepkjfeadbjaaOpW
import Derived.SizedLaws
import Derived.ProofKit
import Derived.OpenShut
import Derived.Deep.Slices
import Derived.ChangeSame
set_option linter.unusedSimpArgs false
set_option linter.unusedVariables false
set_option linter.constructorNameAsVariable false
namespace Go.Ex
open Go Go.ChangeShapes Go.WideShapes Go.ChangeAt Go.RowKit Go.Deep

theorem weights_mem_all {H : Type} {P : Program} {e : TypeId} : ∀ {l : List (DataW H)} {d : DataW H}, d ∈ l → ∀ n ∈ d.weights P e, n ∈ DataW.weightsAll P e l
  | x :: l, d, h, n, hn => by
    simp only [DataW.weightsAll, List.mem_append]
    rcases List.mem_cons.1 h with rfl | h
    · exact Or.inl hn
    · exact Or.inr (weights_mem_all h n hn)
section
variable {H : Type} {enc : TypeId × Value → H} {P : Program} {w : World} {base : Nat} {spare : Nat → Bool} {held : Bool}
abbrev trodΨ (enc : TypeId × Value → H) (P : Program) (w : World) (base : Nat) (spare : Nat → Bool) (held : Bool) (v : Value) (t : TypeId) : Prop := (∃ e, P.underlying t = some (.slice e)) ∧ ∃ m x, DataW.trod enc P w base spare held m t [v] = some x ∧ ∀ n ∈ x.1.weights P t, n ≤ reachBytes
theorem trodΨ_Φ {v : Value} {t : TypeId} (h : trodΨ enc P w base spare held v t) : trodΦ enc P w base spare held v t := by
  obtain ⟨a, m, x, hx, _⟩ := h
  exact ⟨a, m, x, hx⟩
theorem trodΨ_sl : SlOK (trodΨ enc P w base spare held) := fun v t h => trodΦ_sl v t (trodΨ_Φ h)
/-- A slice's length is within the reach. -/
theorem trodΨ_len {v : Value} {t e : TypeId} (ht : P.underlying t = some (.slice e)) (hb : P.bytesOf e = 1) (h : trodΨ enc P w base spare held v t) : ∀ a l c, v = .slice a l c → l ≤ reachBytes := by
  rintro a l c rfl
  obtain ⟨_, m, x, hx, hw⟩ := h
  rcases open_slice ht hx with h0 | ⟨a', len, cap, m', n, D, Pl, hcs, _, _, _, _, hxe, _⟩
  · have h1 := h0.1
    simp only [List.cons.injEq, Value.slice.injEq, and_true] at h1
    omega
  · simp only [List.cons.injEq, Value.slice.injEq, and_true] at hcs
    obtain ⟨_, rfl, _⟩ := hcs
    have hd : x.1 = .slice ((List.range l).map D) ((List.range (m' - l)).map fun j => D (l + j)) := congrArg Prod.fst hxe
    rw [hd] at hw
    simp only [DataW.weights, ht] at hw
    have := hw _ (List.mem_cons_self ..)
    rw [hb, List.length_map, List.length_range, Nat.mul_one] at this
    omega
theorem trod_kinds3 : ∀ (d : Nat) (t : TypeId) (ks : List Kt) (fuel : Nat) (cs : List Value) (x : DataW H × List MemPlace), kindsT2 P d t = some ks → DataW.trod enc P w base spare held fuel t cs = some x → (∀ n ∈ x.1.weights P t, n ≤ reachBytes) → okKs (trodΨ enc P w base spare held) cs ks := by
  intro d
  induction d with
  | zero => intro t ks fuel cs x h; cases h
  | succ d ih =>
    intro t ks fuel cs x h hx hwt
    simp only [kindsT2] at h
    split at h
    · rename_i k hu
      cases h
      obtain ⟨n, rfl, _, hw⟩ := DataW.trod_int hu hx
      exact ⟨⟨n, rfl, hw⟩, trivial⟩
    · rename_i hu
      cases h
      obtain ⟨b, rfl, _⟩ := DataW.trod_bool hu hx
      exact ⟨⟨b, rfl⟩, trivial⟩
    · rename_i e hu
      cases h
      rcases open_slice hu hx with h0 | ⟨a, len, cap, m, n, D, Pl, hcs, _⟩
      · have h1 := h0.1
        subst h1
        exact ⟨⟨⟨_, hu⟩, fuel, x, hx, hwt⟩, trivial⟩
      · subst hcs
        exact ⟨⟨⟨_, hu⟩, fuel, x, hx, hwt⟩, trivial⟩
    · rename_i n e hu
      split at h
      · rename_i a ha
        split at h
        · rename_i hc
          cases h
          obtain ⟨xs, m, _, hxe, hl, hxl, hxi⟩ := DataW.trod_array hu hx
          rw [hxe] at hwt
          simp only [DataW.weights, hu] at hwt
          have key := trod_reps2 (cs := cs) (a := a) n 0 fun i hi => by
            have h1 := hxi i hi
            rw [← hc.1, List.getElem?_eq_getElem (by omega)] at h1
            rw [Nat.zero_add]
            exact ih e a m _ _ ha h1 fun z hz => hwt z (weights_mem_all (List.mem_map.2 ⟨_, List.getElem_mem _, rfl⟩) z hz)
          rw [List.drop_zero, ← hc.2, ← hl, List.take_length] at key
          exact key
        · cases h
      · cases h
    · rename_i fs hu
      split at h
      · rename_i a ha
        split at h
        · rename_i hc
          cases h
          obtain ⟨xs, m, _, hxe, hl, hxl, hxi⟩ := DataW.trod_struct hu hx
          rw [hxe] at hwt
          simp only [DataW.weights, hu] at hwt
          have key := trod_fields2 (cs := cs) fs.toList 0 ks ha fun fl b hfl hb => by
            obtain ⟨i, hi⟩ := List.getElem?_of_mem hfl
            have hi' : fs[i]? = some fl := by simpa using hi
            have h1 := hxi i fl hi'
            cases hk : kindsT2 P d fl.type with
            | none => simp [hk] at hb
            | some b' =>
              simp only [hk, Option.bind_some] at hb
              split at hb
              · rename_i hlen
                cases hb
                have hlt : i < xs.length := by rw [hxl]; exact (Array.getElem?_eq_some_iff.1 hi').1
                rw [← hlen, List.getElem?_eq_getElem hlt] at h1
                exact ih fl.type b m _ _ hk h1 fun z hz => hwt z (DataW.weights_mem_each (j := i) (t := fl.type) (by rw [List.getElem?_map, hi]; rfl) (by rw [List.getElem?_map, List.getElem?_eq_getElem hlt]; rfl) z hz)
              · cases hb
          rw [List.drop_zero, hc, ← hl, List.take_length] at key
          exact key
        · cases h
      · cases h
    · cases h

end
end Go.Ex
namespace Go.Sx
open Go Go.ChangeShapes Go.WideShapes Go.ChangeAt Go.RowKit Go.Deep
open Go.Ex (weights_mem_all)
section
variable {H : Type} {enc : TypeId × Value → H} {P : Program} {W : World} {base : Nat} {spare : Nat → Bool} {held : Bool} {d : DataW H} {p : List MemPlace}
/-- A slice of structs that hold slices reads as rows. -/
theorem rdRowsU {t e : TypeId} {ks : List Ex.Kt} {dp : Nat} (ht : P.underlying t = some (.slice e)) (hk : Ex.kindsT2 P dp e = some ks) (hC : P.cellsOf e = ks.length) (hks : 0 < ks.length) {v : Value} (hv : ∃ a l c, v = .slice a l c) (h : DataW.Trod enc P W base spare held t v d p) (hwt : ∀ n ∈ d.weights P t, n ≤ reachBytes) :
    ∃ rows, RdRows (Hl.all W) v (ks.map ktKd) rows ∧ ∀ row ∈ rows, Ex.okKs (Ex.trodΨ enc P W base spare held) row ks := by
  obtain ⟨a0, len0, cap0, rfl⟩ := hv
  obtain ⟨fuel, hf⟩ := h
  rcases open_slice ht hf with h | ⟨a, len, cap, m, n, D, Pl, hcs, hb, hl, hm, hmm, hx, hi⟩
  · have h := h.1
    simp only [Value.cells, List.cons.injEq, Value.slice.injEq, and_true] at h
    obtain ⟨rfl, rfl, rfl⟩ := h
    exact ⟨[], ⟨-1, 0, 0, rfl, by omega, Or.inl rfl⟩, fun _ h => nomatch h⟩
  · simp only [Value.cells, List.cons.injEq, Value.slice.injEq, and_true] at hcs
    obtain ⟨rfl, rfl, rfl⟩ := hcs
    have hlm : len0 ≤ m := by rw [hmm]; split <;> omega
    have hd : d = .slice ((List.range len0).map D) ((List.range (m - len0)).map fun j => D (len0 + j)) := congrArg Prod.fst hx
    rw [hd] at hwt
    simp only [DataW.weights, ht] at hwt
    have each : ∀ i, i < len0 → ∃ row, row.length = ks.length ∧ Ex.okKs (Ex.trodΨ enc P W base spare held) row ks ∧ ∀ j, j < ks.length → W.cell? ((a.add (i * ks.length)).add j) = row[j]? := by
      intro i hil
      obtain ⟨cs', hc, ht'⟩ := hi i (by omega)
      rw [hC] at hc
      obtain ⟨_, hcl, hat⟩ := World.cells?_some hc
      exact ⟨cs', hcl, Ex.trod_kinds3 dp e ks n cs' _ hk ht' fun z hz => hwt z (List.mem_cons_of_mem _ (List.mem_append_left _ (weights_mem_all (List.mem_map.2 ⟨i, List.mem_range.2 hil, rfl⟩) z hz))), fun j hj => hat j hj⟩
    rcases Nat.eq_zero_or_pos len0 with h0 | h0
    · subst h0
      obtain ⟨x, y, hx, hy, _⟩ := slP_all (some a)
      exact ⟨[], ⟨x, y, cap0, by rw [hx]; rfl, hy, Or.inl rfl⟩, fun _ h => nomatch h⟩
    · have hsp : a.spot = none := by
        obtain ⟨row, hl', _, hc⟩ := each 0 h0
        have := hc 0 hks
        simp only [Nat.zero_mul, Addr.add, if_true] at this
        rw [List.getElem?_eq_getElem (by omega)] at this
        exact cell_spot this
      obtain ⟨blk, off, spot⟩ := a
      simp only at hsp
      subst hsp
      classical
      let row : Nat → List Value := fun i => if h : i < len0 then (each i h).choose else []
      have hrow : ∀ i, i < len0 → (row i).length = ks.length ∧ Ex.okKs (Ex.trodΨ enc P W base spare held) (row i) ks ∧ ∀ j, j < ks.length → W.cell? ⟨blk, off + i * ks.length + j, none⟩ = (row i)[j]? := by
        intro i hil
        have := (each i hil).choose_spec
        simp only [row, dif_pos hil]
        refine ⟨this.1, this.2.1, fun j hj => ?_⟩
        rw [← this.2.2 j hj, addr_add, addr_add]
      refine ⟨(List.range len0).map row, ⟨blk, off, cap0, ?_, by omega, Or.inr ⟨by omega, fun i r hr => ?_⟩⟩, fun r hr => ?_⟩
      · rw [slP_pos (by omega), List.length_map, List.length_range]; rfl
      · have hil : i < len0 := by have := (List.getElem?_eq_some_iff.1 hr).1; simpa using this
        rw [List.getElem?_map, List.getElem?_range hil, Option.map_some, Option.some.injEq] at hr
        subst hr
        obtain ⟨h1, h2, h3⟩ := hrow i hil
        refine ⟨rowOK_kt Ex.trodΨ_sl h2, fun j u hu => ?_⟩
        rw [Int.toNat_natCast, Int.toNat_natCast, List.length_map]
        have hj : j < ks.length := by rw [← h1]; exact (List.getElem?_eq_some_iff.1 hu).1
        exact all_cell (by rw [h3 j hj]; exact hu)
      · obtain ⟨i, hil, rfl⟩ := List.mem_map.1 hr
        exact (hrow i (List.mem_range.1 hil)).2.1
/-- A struct of two bytes, a number and a slice. -/
theorem row4u {t e : TypeId} (ht : P.underlying t = some (.slice e)) (hb : P.bytesOf e = 1) {row : List Value} (h : Ex.okKs (Ex.trodΨ enc P W base spare held) row [.int .u8, .int .u8, .int .i64, .other t]) :
    ∃ k m i u, row = [.int .u8 k, .int .u8 m, .int .i64 i, u] ∧ (Lit.int .u8 k).wf = true ∧ (Lit.int .u8 m).wf = true ∧ (Lit.int .i64 i).wf = true ∧ (∃ a l c, u = Value.slice a l c ∧ l ≤ reachBytes) ∧ ∃ d p, DataW.Trod enc P W base spare held t u d p := by
  match row, Ex.okKs_length h with
  | [a, b, c, u], _ =>
    obtain ⟨⟨k, rfl, hk⟩, ⟨m, rfl, hm⟩, ⟨i, rfl, hi⟩, hu, _⟩ := h
    have hsl : ∃ a l c, u = Value.slice a l c := Ex.trodΨ_sl u t hu
    obtain ⟨a, l, c, rfl⟩ := hsl
    have hlen := Ex.trodΨ_len ht hb hu a l c rfl
    obtain ⟨_, fuel, x, hx, _⟩ := hu
    exact ⟨k, m, i, _, rfl, hk, hm, hi, ⟨a, l, c, rfl, hlen⟩, x.1, x.2, fuel, hx⟩
end
end Go.Sx
