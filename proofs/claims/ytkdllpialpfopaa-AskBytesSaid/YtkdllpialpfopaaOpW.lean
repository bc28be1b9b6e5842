/- How slices of structs that hold slices read as rows. -/
import Derived.Test.YtkdllpialpfopaaOpV
import Derived.ProofKit
import Derived.OpenShut
import Derived.Deep.Slices
import Derived.ChangeSame
set_option linter.unusedSimpArgs false
set_option linter.unusedVariables false
set_option linter.constructorNameAsVariable false
namespace Go.Ex
open Go Go.ChangeShapes Go.WideShapes Go.ChangeAt Go.RowKit Go.Deep

/-- A cell's kind: other things are told by their type. -/
inductive Kt | int (k : IntKind) | bool | other (t : TypeId)
/-- A cell of a kind, within its bounds. -/
def okK (Φ : Value → TypeId → Prop) (v : Value) : Kt → Prop
  | .int k => ∃ n, v = .int k n ∧ (Lit.int k n).wf = true
  | .bool => ∃ b, v = .bool b
  | .other t => Φ v t
variable {Φ : Value → TypeId → Prop}
/-- What a slice's cell must be. -/
def SlOK (Φ : Value → TypeId → Prop) : Prop := ∀ v t, Φ v t → ∃ a len cap, v = .slice a len cap
def okKs (Φ : Value → TypeId → Prop) : List Value → List Kt → Prop
  | [], [] => True
  | v :: l, k :: m => okK Φ v k ∧ okKs Φ l m
  | _, _ => False
theorem okKs_append : ∀ {l m : List Value} {a b : List Kt}, okKs Φ l a → okKs Φ m b → okKs Φ (l ++ m) (a ++ b)
  | [], m, [], b, _, h => h
  | v :: l, m, k :: a, b, h, h2 => ⟨h.1, okKs_append h.2 h2⟩
  | [], _, _ :: _, _, h, _ => h.elim
  | _ :: _, _, [], _, h, _ => h.elim
theorem okKs_length : ∀ {l : List Value} {a : List Kt}, okKs Φ l a → l.length = a.length
  | [], [], _ => rfl
  | _ :: l, _ :: a, h => by simp [okKs_length h.2]
  | [], _ :: _, h => h.elim
  | _ :: _, [], h => h.elim
theorem okKs_get : ∀ {l : List Value} {a : List Kt}, okKs Φ l a → ∀ (j : Nat) (k : Kt), a[j]? = some k → ∃ v, l[j]? = some v ∧ okK Φ v k
  | _ :: l, _ :: a, h, 0, k, hk => by simp at hk; subst hk; exact ⟨_, rfl, h.1⟩
  | _ :: l, _ :: a, h, j + 1, k, hk => by simpa using okKs_get h.2 j k (by simpa using hk)
  | [], [], _, j, k, hk => by simp at hk
  | [], _ :: _, h, _, _, _ => h.elim
  | _ :: _, [], h, _, _, _ => h.elim

/-- The kinds of a type's cells. -/
def fieldsK2 (f : TypeId → Option (List Kt)) : List Field → Nat → Option (List Kt)
  | [], _ => some []
  | fl :: l, o => if fl.offset = o then match f fl.type with
    | some a => match fieldsK2 f l (o + a.length) with
      | some b => some (a ++ b)
      | none => none
    | none => none
    else none
def repK2 (a : List Kt) : Nat → List Kt
  | 0 => []
  | n + 1 => a ++ repK2 a n
def kindsT2 (P : Program) : Nat → TypeId → Option (List Kt)
  | 0, _ => none
  | d + 1, t => match P.underlying t with
    | some (.int k) => some [.int k]
    | some .bool => some [.bool]
    | some (.slice _) => some [.other t]
    | some (.array n e) => match kindsT2 P d e with
      | some a => if a.length = P.cellsOf e ∧ P.cellsOf t = n * a.length then some (repK2 a n) else none
      | none => none
    | some (.struct fs) => match fieldsK2 (fun u => (kindsT2 P d u).bind fun a => if a.length = P.cellsOf u then some a else none) fs.toList 0 with
      | some a => if a.length = P.cellsOf t then some a else none
      | none => none
    | _ => none

section
variable {H : Type} {enc : TypeId × Value → H} {P : Program} {w : World} {base : Nat} {spare : Nat → Bool} {held : Bool}

theorem trod_fields2 {g : TypeId → Option (List Kt)} {cs : List Value} : ∀ (l : List Field) (o : Nat) (ks : List Kt), fieldsK2 g l o = some ks →
    (∀ (fl : Field) (a : List Kt), fl ∈ l → g fl.type = some a → okKs Φ ((cs.drop fl.offset).take a.length) a) → okKs Φ ((cs.drop o).take ks.length) ks
  | [], o, ks, h, _ => by cases h; simp [okKs]
  | fl :: l, o, ks, h, hq => by
    simp only [fieldsK2] at h
    split at h
    · rename_i ho; subst ho
      split at h
      · rename_i a ha
        split at h
        · rename_i b hb
          cases h
          have h1 := hq fl a (by simp) ha
          have h2 := trod_fields2 l (fl.offset + a.length) b hb fun f c hf hc => hq f c (List.mem_cons_of_mem _ hf) hc
          have e : (cs.drop fl.offset).take (a ++ b).length = (cs.drop fl.offset).take a.length ++ (cs.drop (fl.offset + a.length)).take b.length := by
            rw [List.length_append, List.take_add, List.drop_drop]
          rw [e]
          exact okKs_append h1 h2
        · cases h
      · cases h
    · cases h

theorem trod_reps2 {cs : List Value} {a : List Kt} : ∀ (n : Nat) (o : Nat), (∀ i, i < n → okKs Φ ((cs.drop (o + i * a.length)).take a.length) a) → okKs Φ ((cs.drop o).take (n * a.length)) (repK2 a n)
  | 0, o, _ => by simp [okKs, repK2]
  | n + 1, o, h => by
    have h0 := h 0 (by omega)
    simp only [Nat.zero_mul, Nat.add_zero] at h0
    have ih := trod_reps2 n (o + a.length) fun i hi => by
      have := h (i + 1) (by omega)
      rwa [Nat.add_mul, Nat.one_mul, Nat.add_comm (i * a.length), ← Nat.add_assoc] at this
    have e : (cs.drop o).take ((n + 1) * a.length) = (cs.drop o).take a.length ++ (cs.drop (o + a.length)).take (n * a.length) := by
      rw [Nat.add_mul, Nat.one_mul, Nat.add_comm (n * a.length), List.take_add, List.drop_drop]
    rw [e]
    exact okKs_append h0 ih

abbrev trodΦ (enc : TypeId × Value → H) (P : Program) (w : World) (base : Nat) (spare : Nat → Bool) (held : Bool) (v : Value) (t : TypeId) : Prop := (∃ e, P.underlying t = some (.slice e)) ∧ ∃ m x, DataW.trod enc P w base spare held m t [v] = some x
theorem trodΦ_sl : SlOK (trodΦ enc P w base spare held) := by
  rintro v t ⟨⟨e, hu⟩, m, x, hx⟩
  rcases open_slice hu hx with h0 | ⟨a, len, cap, m, n, D, Pl, hcs, _⟩
  · have h1 := h0.1
    simp only [List.cons.injEq, and_true] at h1
    exact ⟨none, 0, 0, h1⟩
  · simp only [List.cons.injEq, and_true] at hcs
    exact ⟨some a, len, cap, hcs⟩
theorem trod_kinds2 : ∀ (d : Nat) (t : TypeId) (ks : List Kt) (fuel : Nat) (cs : List Value) (x : DataW H × List MemPlace), kindsT2 P d t = some ks → DataW.trod enc P w base spare held fuel t cs = some x → okKs (trodΦ enc P w base spare held) cs ks := by
  intro d
  induction d with
  | zero => intro t ks fuel cs x h; cases h
  | succ d ih =>
    intro t ks fuel cs x h hx
    simp only [kindsT2] at h
    split at h
    · rename_i k hu
      cases h
      obtain ⟨n, rfl, _, hw⟩ := DataW.trod_int hu hx
      exact ⟨⟨n, rfl, hw⟩, trivial⟩
    · rename_i hu
      cases h
      obtain ⟨b, rfl, _⟩ := DataW.trod_bool hu hx
      exact ⟨⟨b, rfl⟩, trivial⟩
    · rename_i e hu
      cases h
      rcases open_slice hu hx with h0 | ⟨a, len, cap, m, n, D, Pl, hcs, _⟩
      · have h1 := h0.1
        subst h1
        exact ⟨⟨⟨_, hu⟩, fuel, x, hx⟩, trivial⟩
      · subst hcs
        exact ⟨⟨⟨_, hu⟩, fuel, x, hx⟩, trivial⟩
    · rename_i n e hu
      split at h
      · rename_i a ha
        split at h
        · rename_i hc
          cases h
          obtain ⟨xs, m, _, _, hl, hxl, hxi⟩ := DataW.trod_array hu hx
          have key := trod_reps2 (cs := cs) (a := a) n 0 fun i hi => by
            have h1 := hxi i hi
            rw [← hc.1, List.getElem?_eq_getElem (by omega)] at h1
            rw [Nat.zero_add]
            exact ih e a m _ _ ha h1
          rw [List.drop_zero, ← hc.2, ← hl, List.take_length] at key
          exact key
        · cases h
      · cases h
    · rename_i fs hu
      split at h
      · rename_i a ha
        split at h
        · rename_i hc
          cases h
          obtain ⟨xs, m, _, _, hl, hxl, hxi⟩ := DataW.trod_struct hu hx
          have key := trod_fields2 (cs := cs) fs.toList 0 ks ha fun fl b hfl hb => by
            obtain ⟨i, hi⟩ := List.getElem?_of_mem hfl
            have hi' : fs[i]? = some fl := by simpa using hi
            have h1 := hxi i fl hi'
            cases hk : kindsT2 P d fl.type with
            | none => simp [hk] at hb
            | some b' =>
              simp only [hk, Option.bind_some] at hb
              split at hb
              · rename_i hlen
                cases hb
                have hlt : i < xs.length := by rw [hxl]; exact (Array.getElem?_eq_some_iff.1 hi').1
                rw [← hlen, List.getElem?_eq_getElem hlt] at h1
                exact ih fl.type b m _ _ hk h1
              · cases hb
          rw [List.drop_zero, hc, ← hl, List.take_length] at key
          exact key
        · cases h
      · cases h
    · cases h

end

end Go.Ex
namespace Go.Sx
open Go Go.ChangeShapes Go.WideShapes Go.ChangeAt Go.RowKit Go.Deep

def ktKd : Ex.Kt → Kd
  | .int k => .int k
  | .bool => .bool
  | .other _ => .slice
theorem rowOK_kt {Φ : Value → TypeId → Prop} (hΦ : Ex.SlOK Φ) : ∀ {row : List Value} {ks : List Ex.Kt}, Ex.okKs Φ row ks → rowOK row (ks.map ktKd)
  | [], [], _ => trivial
  | v :: row, k :: ks, h => by
    refine ⟨?_, rowOK_kt hΦ h.2⟩
    have h1 := h.1
    cases k with
    | int k => obtain ⟨n, rfl, _⟩ := h1; simp [valIs, ktKd]
    | bool => obtain ⟨b, rfl⟩ := h1; rfl
    | other t => obtain ⟨a, l, c, rfl⟩ := hΦ v t h1; rfl
  | [], _ :: _, h => h.elim
  | _ :: _, [], h => h.elim
section
variable {H : Type} {enc : TypeId × Value → H} {P : Program} {W : World} {base : Nat} {spare : Nat → Bool} {held : Bool} {d : DataW H} {p : List MemPlace}
/-- A slice of structs that hold slices reads as rows. -/
theorem rdRowsT {t e : TypeId} {ks : List Ex.Kt} {dp : Nat} (ht : P.underlying t = some (.slice e)) (hk : Ex.kindsT2 P dp e = some ks) (hC : P.cellsOf e = ks.length) (hks : 0 < ks.length) {v : Value} (hv : ∃ a l c, v = .slice a l c) (h : DataW.Trod enc P W base spare held t v d p) :
    ∃ rows, RdRows (Hl.all W) v (ks.map ktKd) rows ∧ ∀ row ∈ rows, Ex.okKs (Ex.trodΦ enc P W base spare held) row ks := by
  obtain ⟨a0, len0, cap0, rfl⟩ := hv
  obtain ⟨fuel, hf⟩ := h
  rcases open_slice ht hf with h | ⟨a, len, cap, m, n, D, Pl, hcs, hb, hl, hm, hmm, hx, hi⟩
  · have h := h.1
    simp only [Value.cells, List.cons.injEq, Value.slice.injEq, and_true] at h
    obtain ⟨rfl, rfl, rfl⟩ := h
    exact ⟨[], ⟨-1, 0, 0, rfl, by omega, Or.inl rfl⟩, fun _ h => nomatch h⟩
  · simp only [Value.cells, List.cons.injEq, Value.slice.injEq, and_true] at hcs
    obtain ⟨rfl, rfl, rfl⟩ := hcs
    have hlm : len0 ≤ m := by rw [hmm]; split <;> omega
    have each : ∀ i, i < len0 → ∃ row, row.length = ks.length ∧ Ex.okKs (Ex.trodΦ enc P W base spare held) row ks ∧ ∀ j, j < ks.length → W.cell? ((a.add (i * ks.length)).add j) = row[j]? := by
      intro i hil
      obtain ⟨cs', hc, ht'⟩ := hi i (by omega)
      rw [hC] at hc
      obtain ⟨_, hcl, hat⟩ := World.cells?_some hc
      exact ⟨cs', hcl, Ex.trod_kinds2 dp e ks n cs' _ hk ht', fun j hj => hat j hj⟩
    rcases Nat.eq_zero_or_pos len0 with h0 | h0
    · subst h0
      obtain ⟨x, y, hx, hy, _⟩ := slP_all (some a)
      exact ⟨[], ⟨x, y, cap0, by rw [hx]; rfl, hy, Or.inl rfl⟩, fun _ h => nomatch h⟩
    · have hsp : a.spot = none := by
        obtain ⟨row, hl', _, hc⟩ := each 0 h0
        have := hc 0 hks
        simp only [Nat.zero_mul, Addr.add, if_true] at this
        rw [List.getElem?_eq_getElem (by omega)] at this
        exact cell_spot this
      obtain ⟨blk, off, spot⟩ := a
      simp only at hsp
      subst hsp
      classical
      let row : Nat → List Value := fun i => if h : i < len0 then (each i h).choose else []
      have hrow : ∀ i, i < len0 → (row i).length = ks.length ∧ Ex.okKs (Ex.trodΦ enc P W base spare held) (row i) ks ∧ ∀ j, j < ks.length → W.cell? ⟨blk, off + i * ks.length + j, none⟩ = (row i)[j]? := by
        intro i hil
        have := (each i hil).choose_spec
        simp only [row, dif_pos hil]
        refine ⟨this.1, this.2.1, fun j hj => ?_⟩
        rw [← this.2.2 j hj, addr_add, addr_add]
      refine ⟨(List.range len0).map row, ⟨blk, off, cap0, ?_, by omega, Or.inr ⟨by omega, fun i r hr => ?_⟩⟩, fun r hr => ?_⟩
      · rw [slP_pos (by omega), List.length_map, List.length_range]; rfl
      · have hil : i < len0 := by have := (List.getElem?_eq_some_iff.1 hr).1; simpa using this
        rw [List.getElem?_map, List.getElem?_range hil, Option.map_some, Option.some.injEq] at hr
        subst hr
        obtain ⟨h1, h2, h3⟩ := hrow i hil
        refine ⟨rowOK_kt Ex.trodΦ_sl h2, fun j u hu => ?_⟩
        rw [Int.toNat_natCast, Int.toNat_natCast, List.length_map]
        have hj : j < ks.length := by rw [← h1]; exact (List.getElem?_eq_some_iff.1 hu).1
        exact all_cell (by rw [h3 j hj]; exact hu)
      · obtain ⟨i, hil, rfl⟩ := List.mem_map.1 hr
        exact (hrow i (List.mem_range.1 hil)).2.1
/-- A struct of two bytes, a number and a slice. -/
theorem row4 {t : TypeId} {row : List Value} (h : Ex.okKs (Ex.trodΦ enc P W base spare held) row [.int .u8, .int .u8, .int .i64, .other t]) :
    ∃ k m i u, row = [.int .u8 k, .int .u8 m, .int .i64 i, u] ∧ (Lit.int .u8 k).wf = true ∧ (Lit.int .u8 m).wf = true ∧ (∃ a l c, u = Value.slice a l c) ∧ ∃ d p, DataW.Trod enc P W base spare held t u d p := by
  match row, Ex.okKs_length h with
  | [a, b, c, u], _ =>
    obtain ⟨⟨k, rfl, hk⟩, ⟨m, rfl, hm⟩, ⟨i, rfl, _⟩, hu, _⟩ := h
    have hsl : ∃ a l c, u = Value.slice a l c := Ex.trodΦ_sl u t hu
    obtain ⟨_, fuel, x, hx⟩ := hu
    refine ⟨k, m, i, u, rfl, hk, hm, hsl, x.1, x.2, fuel, ?_⟩
    obtain ⟨a, l, c, rfl⟩ := hsl
    exact hx
end
end Go.Sx

