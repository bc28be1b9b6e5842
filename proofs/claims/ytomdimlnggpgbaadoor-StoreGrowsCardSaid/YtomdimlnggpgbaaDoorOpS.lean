/- How arguments read, cell by cell: integers and bools, in structs and arrays of structs and arrays; slices of these. -/
import Derived.Test.YtomdimlnggpgbaaDoorSxE
import Derived.ProofKit
import Derived.OpenShut
import Derived.Deep.Slices
import Derived.ChangeSame
set_option linter.unusedSimpArgs false
set_option linter.unusedVariables false
set_option linter.constructorNameAsVariable false
namespace Go.Sx
open Go Go.ChangeShapes Go.WideShapes Go.ChangeAt Go.RowKit Go.Deep

/-- A cell of a kind, within its bounds. -/
def okC (v : Value) : Kd → Prop
  | .int k => ∃ n, v = .int k n ∧ (Lit.int k n).wf = true
  | .bool => ∃ b, v = .bool b
  | _ => False
def okCs : List Value → List Kd → Prop
  | [], [] => True
  | v :: l, k :: m => okC v k ∧ okCs l m
  | _, _ => False
theorem okCs_append : ∀ {l m : List Value} {a b : List Kd}, okCs l a → okCs m b → okCs (l ++ m) (a ++ b)
  | [], m, [], b, _, h => h
  | v :: l, m, k :: a, b, h, h2 => ⟨h.1, okCs_append h.2 h2⟩
  | [], _, _ :: _, _, h, _ => h.elim
  | _ :: _, _, [], _, h, _ => h.elim
theorem okCs_length : ∀ {l : List Value} {a : List Kd}, okCs l a → l.length = a.length
  | [], [], _ => rfl
  | _ :: l, _ :: a, h => by simp [okCs_length h.2]
  | [], _ :: _, h => h.elim
  | _ :: _, [], h => h.elim
theorem okCs_get : ∀ {l : List Value} {a : List Kd}, okCs l a → ∀ (j : Nat) (k : Kd), a[j]? = some k → ∃ v, l[j]? = some v ∧ okC v k
  | _ :: l, _ :: a, h, 0, k, hk => by simp at hk; subst hk; exact ⟨_, rfl, h.1⟩
  | _ :: l, _ :: a, h, j + 1, k, hk => by simpa using okCs_get h.2 j k (by simpa using hk)
  | [], [], _, j, k, hk => by simp at hk
  | [], _ :: _, h, _, _, _ => h.elim
  | _ :: _, [], h, _, _, _ => h.elim

/-- The kinds of a type's cells. -/
def fieldsK (f : TypeId → Option (List Kd)) : List Field → Nat → Option (List Kd)
  | [], _ => some []
  | fl :: l, o => if fl.offset = o then match f fl.type with
    | some a => match fieldsK f l (o + a.length) with
      | some b => some (a ++ b)
      | none => none
    | none => none
    else none
def repK (a : List Kd) : Nat → List Kd
  | 0 => []
  | n + 1 => a ++ repK a n
def kindsT (P : Program) : Nat → TypeId → Option (List Kd)
  | 0, _ => none
  | d + 1, t => match P.underlying t with
    | some (.int k) => some [.int k]
    | some .bool => some [.bool]
    | some (.array n e) => match kindsT P d e with
      | some a => if a.length = P.cellsOf e ∧ P.cellsOf t = n * a.length then some (repK a n) else none
      | none => none
    | some (.struct fs) => match fieldsK (fun u => (kindsT P d u).bind fun a => if a.length = P.cellsOf u then some a else none) fs.toList 0 with
      | some a => if a.length = P.cellsOf t then some a else none
      | none => none
    | _ => none

section
variable {H : Type} {enc : TypeId × Value → H} {P : Program} {w : World} {base : Nat} {spare : Nat → Bool} {held : Bool}

theorem fieldsK_ok {cs : List Value} (f : TypeId → Option (List Kd)) (hf : ∀ (fl : Field) a, f fl.type = some a → okCs ((cs.drop fl.offset).take a.length) a ∨ True) : True := trivial

theorem trod_fields {g : TypeId → Option (List Kd)} {cs : List Value} : ∀ (l : List Field) (o : Nat) (ks : List Kd), fieldsK g l o = some ks →
    (∀ (fl : Field) (a : List Kd), fl ∈ l → g fl.type = some a → okCs ((cs.drop fl.offset).take a.length) a) → okCs ((cs.drop o).take ks.length) ks
  | [], o, ks, h, _ => by cases h; simp [okCs]
  | fl :: l, o, ks, h, hq => by
    simp only [fieldsK] at h
    split at h
    · rename_i ho; subst ho
      split at h
      · rename_i a ha
        split at h
        · rename_i b hb
          cases h
          have h1 := hq fl a (by simp) ha
          have h2 := trod_fields l (fl.offset + a.length) b hb fun f c hf hc => hq f c (List.mem_cons_of_mem _ hf) hc
          have e : (cs.drop fl.offset).take (a ++ b).length = (cs.drop fl.offset).take a.length ++ (cs.drop (fl.offset + a.length)).take b.length := by
            rw [List.length_append, List.take_add, List.drop_drop]
          rw [e]
          exact okCs_append h1 h2
        · cases h
      · cases h
    · cases h

theorem trod_reps {cs : List Value} {a : List Kd} : ∀ (n : Nat) (o : Nat), (∀ i, i < n → okCs ((cs.drop (o + i * a.length)).take a.length) a) → okCs ((cs.drop o).take (n * a.length)) (repK a n)
  | 0, o, _ => by simp [okCs, repK]
  | n + 1, o, h => by
    have h0 := h 0 (by omega)
    simp only [Nat.zero_mul, Nat.add_zero] at h0
    have ih := trod_reps n (o + a.length) fun i hi => by
      have := h (i + 1) (by omega)
      rwa [Nat.add_mul, Nat.one_mul, Nat.add_comm (i * a.length), ← Nat.add_assoc] at this
    have e : (cs.drop o).take ((n + 1) * a.length) = (cs.drop o).take a.length ++ (cs.drop (o + a.length)).take (n * a.length) := by
      rw [Nat.add_mul, Nat.one_mul, Nat.add_comm (n * a.length), List.take_add, List.drop_drop]
    rw [e]
    exact okCs_append h0 ih

theorem trod_kinds : ∀ (d : Nat) (t : TypeId) (ks : List Kd) (fuel : Nat) (cs : List Value) (x : DataW H × List MemPlace), kindsT P d t = some ks → DataW.trod enc P w base spare held fuel t cs = some x → okCs cs ks := by
  intro d
  induction d with
  | zero => intro t ks fuel cs x h; cases h
  | succ d ih =>
    intro t ks fuel cs x h hx
    simp only [kindsT] at h
    split at h
    · rename_i k hu
      cases h
      obtain ⟨n, rfl, _, hw⟩ := DataW.trod_int hu hx
      exact ⟨⟨n, rfl, hw⟩, trivial⟩
    · rename_i hu
      cases h
      obtain ⟨b, rfl, _⟩ := DataW.trod_bool hu hx
      exact ⟨⟨b, rfl⟩, trivial⟩
    · rename_i n e hu
      split at h
      · rename_i a ha
        split at h
        · rename_i hc
          cases h
          obtain ⟨xs, m, _, _, hl, hxl, hxi⟩ := DataW.trod_array hu hx
          have key := trod_reps (cs := cs) (a := a) n 0 fun i hi => by
            have h1 := hxi i hi
            rw [← hc.1, List.getElem?_eq_getElem (by omega)] at h1
            rw [Nat.zero_add]
            exact ih e a m _ _ ha h1
          rw [List.drop_zero, ← hc.2, ← hl, List.take_length] at key
          exact key
        · cases h
      · cases h
    · rename_i fs hu
      split at h
      · rename_i a ha
        split at h
        · rename_i hc
          cases h
          obtain ⟨xs, m, _, _, hl, hxl, hxi⟩ := DataW.trod_struct hu hx
          have key := trod_fields (cs := cs) fs.toList 0 ks ha fun fl b hfl hb => by
            obtain ⟨i, hi⟩ := List.getElem?_of_mem hfl
            have hi' : fs[i]? = some fl := by simpa using hi
            have h1 := hxi i fl hi'
            cases hk : kindsT P d fl.type with
            | none => simp [hk] at hb
            | some b' =>
              simp only [hk, Option.bind_some] at hb
              split at hb
              · rename_i hlen
                cases hb
                have hlt : i < xs.length := by rw [hxl]; exact (Array.getElem?_eq_some_iff.1 hi').1
                rw [← hlen, List.getElem?_eq_getElem hlt] at h1
                exact ih fl.type b m _ _ hk h1
              · cases hb
          rw [List.drop_zero, hc, ← hl, List.take_length] at key
          exact key
        · cases h
      · cases h
    · cases h

theorem okC_valIs {v : Value} {k : Kd} (h : okC v k) : valIs (some v) k = true := by
  cases k with
  | int k => obtain ⟨n, rfl, _⟩ := h; simp [valIs]
  | bool => obtain ⟨b, rfl⟩ := h; rfl
  | _ => exact h.elim

/-- A slice of such things. -/
theorem open_rows {t e : TypeId} {ks : List Kd} {dp : Nat} {fuel : Nat} {cs : List Value} {x : DataW H × List MemPlace} (ht : P.underlying t = some (.slice e)) (hk : kindsT P dp e = some ks) (hC : P.cellsOf e = ks.length)
    (h : DataW.trod enc P w base spare held fuel t cs = some x) :
    cs = [.slice none 0 0] ∨ ∃ (a : Addr) (len cap : Nat), cs = [.slice (some a) len cap] ∧ len ≤ cap ∧ cap ≤ maxLen ∧
      ∀ i, i < len → ∀ (j : Nat) (k : Kd), ks[j]? = some k → ∃ v, w.cell? (a.add (i * ks.length + j)) = some v ∧ okC v k := by
  rcases open_slice ht h with h0 | ⟨a, len, cap, m, n, D, Pl, hcs, hb, hl, hm, hmm, hx, hi⟩
  · exact Or.inl h0.1
  · refine Or.inr ⟨a, len, cap, hcs, hl, hm, fun i hil j k hj => ?_⟩
    have him : i < m := by rw [hmm]; split <;> omega
    obtain ⟨cs', hc, ht'⟩ := hi i him
    rw [hC] at hc
    obtain ⟨_, hcl, hat⟩ := World.cells?_some hc
    have hok := trod_kinds dp e ks n cs' _ hk ht'
    obtain ⟨v, hv, hov⟩ := okCs_get hok j k hj
    have hjl : j < ks.length := (List.getElem?_eq_some_iff.1 hj).1
    refine ⟨v, ?_, hov⟩
    rw [← Go.Deep.add_add, hat j hjl, hv]
end
end Go.Sx
