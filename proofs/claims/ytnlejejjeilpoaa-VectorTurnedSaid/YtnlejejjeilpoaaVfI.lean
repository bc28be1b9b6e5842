/- Vectors: however headers are turned round, what comes is the same: plain facts. -/
import Derived.Test.YtnlejejjeilpoaaVfG
set_option linter.unusedSimpArgs false
set_option linter.unusedVariables false
set_option linter.constructorNameAsVariable false
namespace Go.Proofs.Ytnlejejjeilpoaa.V2
open Go Go.Sx

theorem cmpI_lt {x y : Int} (h : x < y) : cmpI x y = -1 := by unfold cmpI; rw [if_pos h]
theorem cmpI_gt {x y : Int} (h : y < x) : cmpI x y = 1 := by unfold cmpI; rw [if_neg (by omega), if_pos h]
theorem cmpI_eq {x y : Int} (h : x = y) : cmpI x y = 0 := by unfold cmpI; rw [if_neg (by omega), if_neg (by omega)]
theorem cmpH_lt {a b : Hd} : cmpH a b < 0 ↔ a.time < b.time ∨ (a.time = b.time ∧ a.w < b.w) := by
  unfold cmpH
  rcases Int.lt_trichotomy a.time b.time with h | h | h
  · rw [cmpI_lt h]
    exact ⟨fun _ => Or.inl h, fun _ => (by decide : (-1 : Int) < 0)⟩
  · rw [cmpI_eq h]
    show cmpI a.w b.w < 0 ↔ _
    rcases Int.lt_trichotomy a.w b.w with k | k | k
    · rw [cmpI_lt k]
      exact ⟨fun _ => Or.inr ⟨h, k⟩, fun _ => (by decide : (-1 : Int) < 0)⟩
    · rw [cmpI_eq k]
      exact ⟨fun x => absurd x (by decide), fun x => by omega⟩
    · rw [cmpI_gt k]
      exact ⟨fun x => absurd x (by decide), fun x => by omega⟩
  · rw [cmpI_gt h]
    exact ⟨fun x => absurd (show (1 : Int) < 0 from x) (by decide), fun x => by omega⟩
theorem minOf_least : ∀ (l : List Hd) (m y : Hd), y ∈ m :: l → ¬ cmpH y (minOf m l) < 0
  | [], m, y, hy => by
    have hy : y = m := by simpa using hy
    subst hy
    show ¬ cmpH y y < 0
    rw [cmpH_lt]; omega
  | h :: l, m, y, hy => by
    have e : minOf m (h :: l) = minOf (pick m h) l := rfl
    rw [e]
    have ih := minOf_least l (pick m h)
    have hp := ih (pick m h) (List.mem_cons_self ..)
    rcases List.mem_cons.1 hy with rfl | hy
    · revert hp
      unfold pick
      split
      · rename_i h1
        rw [cmpH_lt] at h1
        rw [cmpH_lt, cmpH_lt]; omega
      · exact id
    · rcases List.mem_cons.1 hy with rfl | hy
      · revert hp
        unfold pick
        split
        · exact id
        · rename_i h1
          rw [cmpH_lt] at h1
          rw [cmpH_lt, cmpH_lt]; omega
      · exact ih y (List.mem_cons_of_mem _ hy)
/-- No writer and number is there twice. -/
def NoTwo (hs : List Hd) : Prop := ∀ (i k : Nat) (a b : Hd), k < i → hs[i]? = some a → hs[k]? = some b → ¬ (a.w = b.w ∧ a.seq = b.seq)
theorem NoTwo.same {hs : List Hd} (h : NoTwo hs) {a b : Hd} (ha : a ∈ hs) (hb : b ∈ hs) (h1 : a.w = b.w) (h2 : a.seq = b.seq) : a = b := by
  obtain ⟨i, hi⟩ := List.getElem?_of_mem ha
  obtain ⟨k, hk⟩ := List.getElem?_of_mem hb
  rcases Nat.lt_trichotomy i k with hl | hl | hl
  · exact absurd ⟨h1.symm, h2.symm⟩ (h k i b a hl hk hi)
  · subst hl
    rw [hi] at hk
    exact Option.some.inj hk
  · exact absurd ⟨h1, h2⟩ (h i k a b hl hi hk)
theorem Comes.at {hs : List Hd} {v v' : List Int} {out : List Hd} (h : Comes hs v out v') : ∀ (i : Nat) (x : Hd), out[i]? = some x → ∃ m rest, hs.filter (readyB ((out.take i).foldl bump v)) = m :: rest ∧ x = minOf m rest := by
  induction h with
  | nil => intro i x hx; simp at hx
  | @snoc v1 out rest m h1 h2 ih =>
    intro i x hx
    rcases Nat.lt_or_ge i out.length with hi | hi
    · rw [List.getElem?_append_left hi] at hx
      rw [List.take_append_of_le_length (by omega)]
      exact ih i x hx
    · rw [List.getElem?_append_right hi] at hx
      have e : i = out.length := by
        have := (List.getElem?_eq_some_iff.1 hx).1
        simp at this; omega
      subst e
      rw [Nat.sub_self] at hx
      have hx : minOf m rest = x := by simpa using hx
      rw [List.take_left, ← h1.fold]
      exact ⟨m, rest, h2, hx.symm⟩
theorem min_same {hs hs' : List Hd} (hm : ∀ h, h ∈ hs ↔ h ∈ hs') (nd : NoTwo hs) {v : List Int} {m m' : Hd} {rest rest' : List Hd} (e : hs.filter (readyB v) = m :: rest) (e' : hs'.filter (readyB v) = m' :: rest') : minOf m rest = minOf m' rest' := by
  have k1 := minOf_mem m rest
  have k2 := minOf_mem m' rest'
  have l1 := minOf_least rest m (minOf m' rest')
  have l2 := minOf_least rest' m' (minOf m rest)
  rw [← e] at k1 l1
  rw [← e'] at k2 l2
  generalize minOf m rest = x at *
  generalize minOf m' rest' = x' at *
  rw [List.mem_filter] at k1 k2
  have l1 := l1 (List.mem_filter.2 ⟨(hm _).2 k2.1, k2.2⟩)
  have l2 := l2 (List.mem_filter.2 ⟨(hm _).1 k1.1, k1.2⟩)
  rw [cmpH_lt] at l1 l2
  obtain ⟨_, _, a1, _⟩ := ready_next k1.2
  obtain ⟨_, _, a2, _⟩ := ready_next k2.2
  have ew : x.w = x'.w := by omega
  have es : x.seq = x'.seq := by rw [ew] at a1; omega
  exact nd.same k1.1 ((hm _).2 k2.1) ew es
theorem Comes.pre {hs hs' : List Hd} (hm : ∀ h, h ∈ hs ↔ h ∈ hs') (nd : NoTwo hs) {v v1 v2 : List Int} {out out' : List Hd} (h : Comes hs v out v1) (h' : Comes hs' v out' v2) : ∀ n, n ≤ out.length → n ≤ out'.length → out.take n = out'.take n
  | 0, _, _ => by rw [List.take_zero, List.take_zero]
  | n + 1, h1, h2 => by
    have ih := Comes.pre hm nd h h' n (by omega) (by omega)
    obtain ⟨m, rest, e, ex⟩ := h.at n _ (List.getElem?_eq_getElem (by omega))
    obtain ⟨m', rest', e', ex'⟩ := h'.at n _ (List.getElem?_eq_getElem (by omega))
    rw [← ih] at e'
    have em := min_same hm nd e e'
    rw [List.take_add_one, List.take_add_one, ih, List.getElem?_eq_getElem (by omega), List.getElem?_eq_getElem (by omega), ex, ex', em]
theorem Comes.notLess {hs hs' : List Hd} (hm : ∀ h, h ∈ hs ↔ h ∈ hs') {v v1 v2 : List Int} {out out' : List Hd} (h : Comes hs v out v1) (f : hs.filter (readyB v1) = []) (h' : Comes hs' v out' v2) (hp : out = out'.take out.length) : out'.length ≤ out.length := by
  rcases Nat.lt_or_ge out.length out'.length with hl | hl
  · exfalso
    obtain ⟨m, rest, e, _⟩ := h'.at out.length _ (List.getElem?_eq_getElem hl)
    rw [← hp, ← h.fold] at e
    have hmm : m ∈ hs'.filter (readyB v1) := by rw [e]; exact List.mem_cons_self ..
    rw [List.mem_filter] at hmm
    have : m ∈ hs.filter (readyB v1) := List.mem_filter.2 ⟨(hm m).2 hmm.1, hmm.2⟩
    rw [f] at this
    cases this
  · exact hl
/-- However headers are turned round, what comes is the same. -/
theorem Comes.same {hs hs' : List Hd} (hm : ∀ h, h ∈ hs ↔ h ∈ hs') (nd : NoTwo hs) {v v1 v2 : List Int} {out out' : List Hd} (h : Comes hs v out v1) (f : hs.filter (readyB v1) = []) (h' : Comes hs' v out' v2) (f' : hs'.filter (readyB v2) = []) : out = out' ∧ v1 = v2 := by
  have key := Comes.pre hm nd h h'
  have hl : out.length = out'.length := by
    rcases Nat.le_total out.length out'.length with hl | hl
    · have := key _ (Nat.le_refl _) hl
      rw [List.take_length] at this
      have := Comes.notLess hm h f h' this
      omega
    · have := key _ hl (Nat.le_refl _)
      rw [List.take_length] at this
      have := Comes.notLess (fun h => (hm h).symm) h' f' h this.symm
      omega
  have e := key _ (Nat.le_refl _) (by omega)
  rw [List.take_length, hl, List.take_length] at e
  subst e
  exact ⟨rfl, h.fold.trans h'.fold.symm⟩
/-! ### Rows that are turned round -/
theorem mem_swap {α : Type} {l : List α} {i : Nat} {a b : α} (ha : l[i]? = some a) (hb : l[i + 1]? = some b) (x : α) : x ∈ (l.set i b).set (i + 1) a ↔ x ∈ l := by
  have hi := (List.getElem?_eq_some_iff.1 ha).1
  have hi1 := (List.getElem?_eq_some_iff.1 hb).1
  constructor
  · intro h
    obtain ⟨k, hk⟩ := List.getElem?_of_mem h
    rw [List.getElem?_set] at hk
    split at hk
    · split at hk
      · exact (Option.some.inj hk) ▸ List.mem_of_getElem? ha
      · cases hk
    · rw [List.getElem?_set] at hk
      split at hk
      · exact (Option.some.inj hk) ▸ List.mem_of_getElem? hb
      · exact List.mem_of_getElem? hk
  · intro h
    obtain ⟨k, hk⟩ := List.getElem?_of_mem h
    by_cases h1 : k = i
    · subst h1
      rw [ha] at hk
      refine List.mem_of_getElem? (i := k + 1) ?_
      rw [List.getElem?_set_self (by rw [List.length_set]; omega)]
      exact hk
    · by_cases h2 : k = i + 1
      · subst h2
        rw [hb] at hk
        refine List.mem_of_getElem? (i := i) ?_
        rw [List.getElem?_set_ne (by omega), List.getElem?_set_self (by omega)]
        exact hk
      · refine List.mem_of_getElem? (i := k) ?_
        rw [List.getElem?_set_ne (by omega), List.getElem?_set_ne (by omega)]
        exact hk
/-- The rows from one on, round and round. -/
def Turned (rows rr : List (List Value)) (at_ n : Nat) : Prop := rr.length = n ∧ ∀ j, j < n → rr[j]? = rows[(j + at_) % rows.length]?
theorem Turned.snoc {rows rr : List (List Value)} {t n : Nat} (h : Turned rows rr t n) {row : List Value} (hr : rows[(n + t) % rows.length]? = some row) : Turned rows (rr ++ [row]) t (n + 1) := by
  refine ⟨by rw [List.length_append, h.1]; rfl, fun j hj => ?_⟩
  rcases Nat.lt_or_ge j n with hl | hl
  · rw [List.getElem?_append_left (by rw [h.1]; exact hl)]; exact h.2 j hl
  · have e : j = n := by omega
    subst e
    rw [List.getElem?_append_right (by rw [h.1]; omega), h.1, Nat.sub_self, hr]; rfl
theorem Turned.mem {rows rr : List (List Value)} {t : Nat} (h : Turned rows rr t rows.length) (x : List Value) : x ∈ rr ↔ x ∈ rows := by
  constructor
  · intro hx
    obtain ⟨k, hk⟩ := List.getElem?_of_mem hx
    have hl := (List.getElem?_eq_some_iff.1 hk).1
    rw [h.1] at hl
    rw [h.2 k hl] at hk
    exact List.mem_of_getElem? hk
  · intro hx
    obtain ⟨k, hk⟩ := List.getElem?_of_mem hx
    have hl := (List.getElem?_eq_some_iff.1 hk).1
    generalize hn : rows.length = n at *
    have h0 : 0 < n := by omega
    have ht := Nat.mod_lt t h0
    have key : ((k + (n - t % n)) % n + t) % n = k := by
      rw [Nat.mod_add_mod, Nat.add_mod, show t % n = t % n from rfl]
      have e : k + (n - t % n) + t = k + n * (t / n + 1) := by
        have := Nat.div_add_mod t n
        rw [Nat.mul_add]
        omega
      rw [← Nat.add_mod, e, Nat.add_mul_mod_self_left]
      exact Nat.mod_eq_of_lt hl
    refine List.mem_of_getElem? (i := (k + (n - t % n)) % n) ?_
    rw [h.2 _ (Nat.mod_lt _ h0), hn, key]
    exact hk
/-- Rows of the same set read as headers of the same set. -/
theorem hdAll_mem {R : Hl} {rows rr : List (List Value)} {hs : List Hd} (ha : HdAll R rows hs) (hm : ∀ x, x ∈ rr ↔ x ∈ rows) : ∃ hs', HdAll R rr hs' ∧ ∀ h, h ∈ hs ↔ h ∈ hs' := by
  have each : ∀ row ∈ rows, ∃ h, h ∈ hs ∧ IsHd R row h := by
    intro row hr
    obtain ⟨k, hk⟩ := List.getElem?_of_mem hr
    obtain ⟨h, hh, x⟩ := ha.at hk
    exact ⟨h, List.mem_of_getElem? hh, x⟩
  obtain ⟨hs', ha'⟩ := hdAll_of (R := R) (rows := rr) fun row hr => by
    obtain ⟨h, _, x⟩ := each row ((hm row).1 hr)
    exact ⟨h, x⟩
  refine ⟨hs', ha', fun h => ⟨fun hh => ?_, fun hh => ?_⟩⟩
  · obtain ⟨k, hk⟩ := List.getElem?_of_mem hh
    have hl := (List.getElem?_eq_some_iff.1 hk).1
    have hr : rows[k]? = some (rows[k]'(by rw [ha.1]; exact hl)) := List.getElem?_eq_getElem _
    have x := ha.2 k _ _ hr hk
    obtain ⟨j, hj⟩ := List.getElem?_of_mem ((hm _).2 (List.mem_of_getElem? hr))
    obtain ⟨h2, hh2, x2⟩ := ha'.at hj
    rw [x.uniq x2]
    exact List.mem_of_getElem? hh2
  · obtain ⟨k, hk⟩ := List.getElem?_of_mem hh
    have hl := (List.getElem?_eq_some_iff.1 hk).1
    have hr : rr[k]? = some (rr[k]'(by rw [ha'.1]; exact hl)) := List.getElem?_eq_getElem _
    have x := ha'.2 k _ _ hr hk
    obtain ⟨h2, hh2, x2⟩ := each _ ((hm _).1 (List.mem_of_getElem? hr))
    rw [x.uniq x2]
    exact hh2
end Go.Proofs.Ytnlejejjeilpoaa.V2
