/- How arguments read, cell by cell: integers and bools, in structs and arrays of structs and arrays; slices of these. -/
import Derived.Test.YtngboefkhfldgaaOpen
import Derived.ProofKit
import Derived.OpenShut
import Derived.Deep.Slices
import Derived.ChangeSame
set_option linter.unusedSimpArgs false
set_option linter.unusedVariables false
set_option linter.constructorNameAsVariable false
namespace Go.Ex
open Go Go.ChangeShapes Go.WideShapes Go.ChangeAt Go.RowKit Go.Deep

/-- A cell's kind: other things are told by their type. -/
inductive Kt | int (k : IntKind) | bool | other (t : TypeId)
/-- A cell of a kind, within its bounds. -/
def okK (Φ : Value → TypeId → Prop) (v : Value) : Kt → Prop
  | .int k => ∃ n, v = .int k n ∧ (Lit.int k n).wf = true
  | .bool => ∃ b, v = .bool b
  | .other t => Φ v t
variable {Φ : Value → TypeId → Prop}
/-- What a slice's cell must be. -/
def SlOK (Φ : Value → TypeId → Prop) : Prop := ∀ v t, Φ v t → ∃ a len cap, v = .slice a len cap
def okKs (Φ : Value → TypeId → Prop) : List Value → List Kt → Prop
  | [], [] => True
  | v :: l, k :: m => okK Φ v k ∧ okKs Φ l m
  | _, _ => False
theorem okKs_append : ∀ {l m : List Value} {a b : List Kt}, okKs Φ l a → okKs Φ m b → okKs Φ (l ++ m) (a ++ b)
  | [], m, [], b, _, h => h
  | v :: l, m, k :: a, b, h, h2 => ⟨h.1, okKs_append h.2 h2⟩
  | [], _, _ :: _, _, h, _ => h.elim
  | _ :: _, _, [], _, h, _ => h.elim
theorem okKs_length : ∀ {l : List Value} {a : List Kt}, okKs Φ l a → l.length = a.length
  | [], [], _ => rfl
  | _ :: l, _ :: a, h => by simp [okKs_length h.2]
  | [], _ :: _, h => h.elim
  | _ :: _, [], h => h.elim
theorem okKs_get : ∀ {l : List Value} {a : List Kt}, okKs Φ l a → ∀ (j : Nat) (k : Kt), a[j]? = some k → ∃ v, l[j]? = some v ∧ okK Φ v k
  | _ :: l, _ :: a, h, 0, k, hk => by simp at hk; subst hk; exact ⟨_, rfl, h.1⟩
  | _ :: l, _ :: a, h, j + 1, k, hk => by simpa using okKs_get h.2 j k (by simpa using hk)
  | [], [], _, j, k, hk => by simp at hk
  | [], _ :: _, h, _, _, _ => h.elim
  | _ :: _, [], h, _, _, _ => h.elim

/-- The kinds of a type's cells. -/
def fieldsK2 (f : TypeId → Option (List Kt)) : List Field → Nat → Option (List Kt)
  | [], _ => some []
  | fl :: l, o => if fl.offset = o then match f fl.type with
    | some a => match fieldsK2 f l (o + a.length) with
      | some b => some (a ++ b)
      | none => none
    | none => none
    else none
def repK2 (a : List Kt) : Nat → List Kt
  | 0 => []
  | n + 1 => a ++ repK2 a n
def kindsT2 (P : Program) : Nat → TypeId → Option (List Kt)
  | 0, _ => none
  | d + 1, t => match P.underlying t with
    | some (.int k) => some [.int k]
    | some .bool => some [.bool]
    | some (.slice _) => some [.other t]
    | some (.array n e) => match kindsT2 P d e with
      | some a => if a.length = P.cellsOf e ∧ P.cellsOf t = n * a.length then some (repK2 a n) else none
      | none => none
    | some (.struct fs) => match fieldsK2 (fun u => (kindsT2 P d u).bind fun a => if a.length = P.cellsOf u then some a else none) fs.toList 0 with
      | some a => if a.length = P.cellsOf t then some a else none
      | none => none
    | _ => none

section
variable {H : Type} {enc : TypeId × Value → H} {P : Program} {w : World} {base : Nat} {spare : Nat → Bool} {held : Bool}

theorem trod_fields2 {g : TypeId → Option (List Kt)} {cs : List Value} : ∀ (l : List Field) (o : Nat) (ks : List Kt), fieldsK2 g l o = some ks →
    (∀ (fl : Field) (a : List Kt), fl ∈ l → g fl.type = some a → okKs Φ ((cs.drop fl.offset).take a.length) a) → okKs Φ ((cs.drop o).take ks.length) ks
  | [], o, ks, h, _ => by cases h; simp [okKs]
  | fl :: l, o, ks, h, hq => by
    simp only [fieldsK2] at h
    split at h
    · rename_i ho; subst ho
      split at h
      · rename_i a ha
        split at h
        · rename_i b hb
          cases h
          have h1 := hq fl a (by simp) ha
          have h2 := trod_fields2 l (fl.offset + a.length) b hb fun f c hf hc => hq f c (List.mem_cons_of_mem _ hf) hc
          have e : (cs.drop fl.offset).take (a ++ b).length = (cs.drop fl.offset).take a.length ++ (cs.drop (fl.offset + a.length)).take b.length := by
            rw [List.length_append, List.take_add, List.drop_drop]
          rw [e]
          exact okKs_append h1 h2
        · cases h
      · cases h
    · cases h

theorem trod_reps2 {cs : List Value} {a : List Kt} : ∀ (n : Nat) (o : Nat), (∀ i, i < n → okKs Φ ((cs.drop (o + i * a.length)).take a.length) a) → okKs Φ ((cs.drop o).take (n * a.length)) (repK2 a n)
  | 0, o, _ => by simp [okKs, repK2]
  | n + 1, o, h => by
    have h0 := h 0 (by omega)
    simp only [Nat.zero_mul, Nat.add_zero] at h0
    have ih := trod_reps2 n (o + a.length) fun i hi => by
      have := h (i + 1) (by omega)
      rwa [Nat.add_mul, Nat.one_mul, Nat.add_comm (i * a.length), ← Nat.add_assoc] at this
    have e : (cs.drop o).take ((n + 1) * a.length) = (cs.drop o).take a.length ++ (cs.drop (o + a.length)).take (n * a.length) := by
      rw [Nat.add_mul, Nat.one_mul, Nat.add_comm (n * a.length), List.take_add, List.drop_drop]
    rw [e]
    exact okKs_append h0 ih

abbrev trodΦ (enc : TypeId × Value → H) (P : Program) (w : World) (base : Nat) (spare : Nat → Bool) (held : Bool) (v : Value) (t : TypeId) : Prop := (∃ e, P.underlying t = some (.slice e)) ∧ ∃ m x, DataW.trod enc P w base spare held m t [v] = some x
theorem trodΦ_sl : SlOK (trodΦ enc P w base spare held) := by
  rintro v t ⟨⟨e, hu⟩, m, x, hx⟩
  rcases open_slice hu hx with h0 | ⟨a, len, cap, m, n, D, Pl, hcs, _⟩
  · have h1 := h0.1
    simp only [List.cons.injEq, and_true] at h1
    exact ⟨none, 0, 0, h1⟩
  · simp only [List.cons.injEq, and_true] at hcs
    exact ⟨some a, len, cap, hcs⟩
theorem trod_kinds2 : ∀ (d : Nat) (t : TypeId) (ks : List Kt) (fuel : Nat) (cs : List Value) (x : DataW H × List MemPlace), kindsT2 P d t = some ks → DataW.trod enc P w base spare held fuel t cs = some x → okKs (trodΦ enc P w base spare held) cs ks := by
  intro d
  induction d with
  | zero => intro t ks fuel cs x h; cases h
  | succ d ih =>
    intro t ks fuel cs x h hx
    simp only [kindsT2] at h
    split at h
    · rename_i k hu
      cases h
      obtain ⟨n, rfl, _, hw⟩ := DataW.trod_int hu hx
      exact ⟨⟨n, rfl, hw⟩, trivial⟩
    · rename_i hu
      cases h
      obtain ⟨b, rfl, _⟩ := DataW.trod_bool hu hx
      exact ⟨⟨b, rfl⟩, trivial⟩
    · rename_i e hu
      cases h
      rcases open_slice hu hx with h0 | ⟨a, len, cap, m, n, D, Pl, hcs, _⟩
      · have h1 := h0.1
        subst h1
        exact ⟨⟨⟨_, hu⟩, fuel, x, hx⟩, trivial⟩
      · subst hcs
        exact ⟨⟨⟨_, hu⟩, fuel, x, hx⟩, trivial⟩
    · rename_i n e hu
      split at h
      · rename_i a ha
        split at h
        · rename_i hc
          cases h
          obtain ⟨xs, m, _, _, hl, hxl, hxi⟩ := DataW.trod_array hu hx
          have key := trod_reps2 (cs := cs) (a := a) n 0 fun i hi => by
            have h1 := hxi i hi
            rw [← hc.1, List.getElem?_eq_getElem (by omega)] at h1
            rw [Nat.zero_add]
            exact ih e a m _ _ ha h1
          rw [List.drop_zero, ← hc.2, ← hl, List.take_length] at key
          exact key
        · cases h
      · cases h
    · rename_i fs hu
      split at h
      · rename_i a ha
        split at h
        · rename_i hc
          cases h
          obtain ⟨xs, m, _, _, hl, hxl, hxi⟩ := DataW.trod_struct hu hx
          have key := trod_fields2 (cs := cs) fs.toList 0 ks ha fun fl b hfl hb => by
            obtain ⟨i, hi⟩ := List.getElem?_of_mem hfl
            have hi' : fs[i]? = some fl := by simpa using hi
            have h1 := hxi i fl hi'
            cases hk : kindsT2 P d fl.type with
            | none => simp [hk] at hb
            | some b' =>
              simp only [hk, Option.bind_some] at hb
              split at hb
              · rename_i hlen
                cases hb
                have hlt : i < xs.length := by rw [hxl]; exact (Array.getElem?_eq_some_iff.1 hi').1
                rw [← hlen, List.getElem?_eq_getElem hlt] at h1
                exact ih fl.type b m _ _ hk h1
              · cases hb
          rw [List.drop_zero, hc, ← hl, List.take_length] at key
          exact key
        · cases h
      · cases h
    · cases h

end

/-! ### Cells, and a point whose numbers and bools they are -/
def Kt.ck : Kt → Ck
  | .int k => .int k
  | .bool => .bool
  | .other _ => .sl
/-- Slices' numbers aren't negative, but for the block of none. -/
def Slots (p : Pt) : Nat → List Ck → Prop
  | _, [] => True
  | j, .sl :: l => (0 ≤ p.i (j + 1) ∧ 0 ≤ p.i (j + 2) ∧ 0 ≤ p.i (j + 3)) ∧ Slots p (j + 4) l
  | j, .int _ :: l => Slots p (j + 1) l
  | j, .bool :: l => Slots p (j + 1) l
def ptSet (n : Nat) (x : Int) (b : Bool) (p : Pt) : Pt := ⟨fun j => if j = n then x else p.i j, fun j => if j = n then b else p.b j⟩
theorem pt_of (hΦ : SlOK Φ) : ∀ (ks : List Kt) (cs : List Value) (n : Nat), okKs Φ cs ks → ∀ p0 : Pt, ∃ p : Pt, (∀ j, j < n → p.i j = p0.i j ∧ p.b j = p0.b j) ∧ ckVals p n (ks.map Kt.ck) = cs ∧ Slots p n (ks.map Kt.ck)
  | [], [], n, _, p0 => ⟨p0, fun _ _ => ⟨rfl, rfl⟩, rfl, trivial⟩
  | .int k :: ks, v :: cs, n, h, p0 => by
    obtain ⟨x, rfl, _⟩ := h.1
    obtain ⟨p, h1, h2, h3⟩ := pt_of hΦ ks cs (n + 1) h.2 (ptSet n x false p0)
    refine ⟨p, fun j hj => ?_, ?_, h3⟩
    · obtain ⟨a, b⟩ := h1 j (by omega)
      rw [a, b]
      simp only [ptSet]
      rw [if_neg (by omega), if_neg (by omega)]; exact ⟨rfl, rfl⟩
    · have := (h1 n (by omega)).1
      simp only [ptSet, if_true] at this
      simp only [List.map_cons, Kt.ck, ckVals, Ck.val, Ck.len, this, h2]
  | .bool :: ks, v :: cs, n, h, p0 => by
    obtain ⟨x, rfl⟩ := h.1
    obtain ⟨p, h1, h2, h3⟩ := pt_of hΦ ks cs (n + 1) h.2 (ptSet n 0 x p0)
    refine ⟨p, fun j hj => ?_, ?_, h3⟩
    · obtain ⟨a, b⟩ := h1 j (by omega)
      rw [a, b]
      simp only [ptSet]
      rw [if_neg (by omega), if_neg (by omega)]; exact ⟨rfl, rfl⟩
    · have := (h1 n (by omega)).2
      simp only [ptSet, if_true] at this
      simp only [List.map_cons, Kt.ck, ckVals, Ck.val, Ck.len, this, h2]
  | .other t :: ks, v :: cs, n, h, p0 => by
    obtain ⟨a, len, cap, rfl⟩ := hΦ v t h.1
    obtain ⟨x, y, hx, hy⟩ := slP_all a
    obtain ⟨p, h1, h2, h3⟩ := pt_of hΦ ks cs (n + 4) h.2 (ptSet n x false (ptSet (n + 1) y false (ptSet (n + 2) len false (ptSet (n + 3) cap false p0))))
    have g := fun j hj => (h1 j hj).1
    have e0 : p.i n = x := by rw [g n (by omega)]; simp [ptSet]
    have e1 : p.i (n + 1) = y := by rw [g (n + 1) (by omega)]; simp [ptSet]
    have e2 : p.i (n + 2) = len := by rw [g (n + 2) (by omega)]; simp [ptSet]
    have e3 : p.i (n + 3) = cap := by rw [g (n + 3) (by omega)]; simp [ptSet]
    refine ⟨p, fun j hj => ?_, ?_, ?_⟩
    · obtain ⟨a, b⟩ := h1 j (by omega)
      rw [a, b]
      simp only [ptSet]
      repeat rw [if_neg (by omega)]
      exact ⟨rfl, rfl⟩
    · simp only [List.map_cons, Kt.ck, ckVals, Ck.val, Ck.len, e0, e1, e2, e3, h2, ← hx, Int.toNat_natCast]
    · simp only [List.map_cons, Kt.ck, Slots, e1, e2, e3]
      exact ⟨⟨hy, by omega, by omega⟩, h3⟩
  | [], _ :: _, _, h, _ => h.elim
  | _ :: _, [], _, h, _ => h.elim
end Go.Ex
