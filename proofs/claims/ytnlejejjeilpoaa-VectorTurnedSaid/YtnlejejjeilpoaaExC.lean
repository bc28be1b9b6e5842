/- A symbolic executor of functions: ways that meet, code, functions, loops by invariants, contracts as told. What it tells of a piece of code is proved to be what the machine does. -/
import Derived.LoopN
import Derived.Test.YtnlejejjeilpoaaExB
set_option linter.unusedSimpArgs false
set_option linter.unusedVariables false
set_option linter.constructorNameAsVariable false
namespace Go.Ex
open Go

inductive Tag | norm | ret | exit (id : Nat)
  deriving DecidableEq

structure Out where
  exits : List (Tag × St)
  need : Nd
  env : Ev

/-- What is left of a condition where c holds. -/
def strip (c : E) : E → E
  | .and a b => if .and a b = c then .tt else if a = c then b else .and a b
  | e => if e = c then .tt else e
theorem strip_ev {ρ : Env} {c : E} (hc : bev ρ c = true) (e : E) : bev ρ (strip c e) = bev ρ e := by
  unfold strip
  split
  · split
    · rename_i h; rw [h, hc]; rfl
    · split
      · rename_i h; rw [bev_and, h, hc]; rfl
      · rfl
  · split
    · rename_i h; rw [h, hc]; rfl
    · rfl
def joinLive (c l1 l2 : E) : E := mkIteB c (strip c l1) (strip (mkNot c) l2)
theorem joinLive_ev {ρ : Env} (c l1 l2 : E) : bev ρ (joinLive c l1 l2) = if bev ρ c = true then bev ρ l1 else bev ρ l2 := by
  unfold joinLive
  rw [bev_mkIteB]
  cases hc : bev ρ c with
  | true => simp [strip_ev hc]
  | false => simp [strip_ev (c := mkNot c) (by rw [bev_mkNot, hc]; rfl)]

def joinSlot (c : E) : Option Slot → Option Slot → Option Slot
  | some s, some t => match mergeT c s.v t.v with
    | some v => some ⟨mkIteB c s.c t.c, v⟩
    | none => none
  | _, _ => none
def joinTmps (c : E) : List (Option Slot) → List (Option Slot) → List (Option Slot)
  | x :: l, y :: m => joinSlot c x y :: joinTmps c l m
  | _, _ => []
def joinBlk (c : E) : Option (List CV × TypeId) → Option (List CV × TypeId) → Option (List CV × TypeId)
  | some (l, T), some (m, U) => if T = U then (mergeL c l m).map fun r => (r, T) else none
  | _, _ => none
def joinMem (c : E) : Mem → Mem → Mem
  | x :: l, y :: m => joinBlk c x y :: joinMem c l m
  | [], m => m.map fun _ => none
  | l, [] => l.map fun _ => none

theorem joinTmps_get {c : E} : ∀ (l m : List (Option Slot)), l.length = m.length → ∀ (t : Nat) (s : Slot), (joinTmps c l m)[t]? = some (some s) →
    ∃ s1 s2 v, l[t]? = some (some s1) ∧ m[t]? = some (some s2) ∧ mergeT c s1.v s2.v = some v ∧ s = ⟨mkIteB c s1.c s2.c, v⟩
  | [], _, _, t, s, h => by simp [joinTmps] at h
  | x :: l, [], hl, _, _, _ => by cases hl
  | x :: l, y :: m, hl, 0, s, h => by
    simp only [joinTmps, List.getElem?_cons_zero, Option.some.injEq] at h
    unfold joinSlot at h
    split at h
    · rename_i s1 s2
      split at h
      · rename_i v hv
        simp only [Option.some.injEq] at h
        exact ⟨s1, s2, v, rfl, rfl, hv, h.symm⟩
      · cases h
    · cases h
  | x :: l, y :: m, hl, t + 1, s, h => by
    simp only [joinTmps, List.getElem?_cons_succ] at h ⊢
    exact joinTmps_get l m (by simpa using hl) t s h
theorem joinTmps_length {c : E} : ∀ (l m : List (Option Slot)), l.length = m.length → (joinTmps c l m).length = l.length
  | [], m, _ => by simp [joinTmps]
  | x :: l, [], hl => by cases hl
  | x :: l, y :: m, hl => by simp [joinTmps, joinTmps_length l m (by simpa using hl)]

theorem joinMem_get {c : E} : ∀ (l m : Mem) (b : Nat) x, (joinMem c l m)[b]? = some (some x) →
    ∃ x1 x2, l[b]? = some (some x1) ∧ m[b]? = some (some x2) ∧ x.2 = x1.2 ∧ x.2 = x2.2 ∧ mergeL c x1.1 x2.1 = some x.1
  | [], m, b, x, h => by simp [joinMem] at h
  | x1 :: l, [], b, x, h => by
    simp only [joinMem, List.getElem?_map, Option.map_eq_some_iff] at h
    obtain ⟨_, _, h⟩ := h; cases h
  | x1 :: l, x2 :: m, 0, x, h => by
    simp only [joinMem, List.getElem?_cons_zero, Option.some.injEq] at h
    unfold joinBlk at h
    split at h
    · rename_i l1 T l2 U
      split at h
      · rename_i hT; subst hT
        simp only [Option.map_eq_some_iff] at h
        obtain ⟨r, hr, rfl⟩ := h
        exact ⟨_, _, rfl, rfl, rfl, rfl, hr⟩
      · cases h
    · cases h
  | x1 :: l, x2 :: m, b + 1, x, h => by
    simp only [joinMem, List.getElem?_cons_succ] at h ⊢
    exact joinMem_get l m b x h
theorem joinMem_length {c : E} : ∀ (l m : Mem), l.length ≤ (joinMem c l m).length ∧ m.length ≤ (joinMem c l m).length
  | [], m => by simp [joinMem]
  | x1 :: l, [] => by simp [joinMem]
  | x1 :: l, x2 :: m => by have := joinMem_length (c := c) l m; simp [joinMem]; exact this

def joinSt (c lv : E) (s t : St) : Option St :=
  if s.tmps.length = t.tmps.length then some ⟨joinTmps c s.tmps t.tmps, joinMem c s.mem t.mem, lv, max s.nv t.nv⟩ else none

section
variable {P : Program} {S : Nat → Prop} {w0 : World} {β : Nat → Nat} {ρ : Env} {a : Act} {w : World}

theorem joinSt_left {c lv : E} {s t r : St} (h : joinSt c lv s t = some r) (hc : bev ρ c = true) (hA : RelA S w0 β ρ s a w) : RelA S w0 β ρ r a w := by
  unfold joinSt at h
  split at h
  · rename_i hl
    cases h
    intro β' hβ
    have h0 := hA β' (hβ.mono (joinMem_length s.mem t.mem).1)
    refine ⟨⟨h0.rom, h0.keep, ?_, ?_, ?_⟩, by rw [h0.size, joinTmps_length _ _ hl], h0.defers, ?_⟩
    · intro b l T hb
      obtain ⟨⟨l1, T1⟩, ⟨l2, T2⟩, h1, _, e1, _, hm⟩ := joinMem_get _ _ b _ hb
      simp only at e1 hm
      subst e1
      rw [mergeL_ev hm, if_pos hc]
      exact h0.blk b l1 _ h1
    · intro b x hb
      obtain ⟨x1, _, h1, _⟩ := joinMem_get _ _ b _ hb
      exact h0.own b x1 h1
    · intro b d x y hb hd
      obtain ⟨x1, _, h1, _⟩ := joinMem_get _ _ b _ hb
      obtain ⟨y1, _, h2, _⟩ := joinMem_get _ _ d _ hd
      exact h0.inj b d x1 y1 h1 h2
    · intro k sl hs
      obtain ⟨s1, s2, v, h1, h2, hm, rfl⟩ := joinTmps_get _ _ hl k sl hs
      rw [h0.tmp k s1 h1]
      simp only [bev_mkIteB, hc, if_true, mergeT_ev hm]
  · cases h

theorem joinSt_right {c lv : E} {s t r : St} (h : joinSt c lv s t = some r) (hc : bev ρ c = false) (hA : RelA S w0 β ρ t a w) : RelA S w0 β ρ r a w := by
  unfold joinSt at h
  split at h
  · rename_i hl
    cases h
    intro β' hβ
    have h0 := hA β' (hβ.mono (joinMem_length s.mem t.mem).2)
    have hcn : ¬ bev ρ c = true := by simp [hc]
    refine ⟨⟨h0.rom, h0.keep, ?_, ?_, ?_⟩, by rw [h0.size, joinTmps_length _ _ hl, hl], h0.defers, ?_⟩
    · intro b l T hb
      obtain ⟨⟨l1, T1⟩, ⟨l2, T2⟩, _, h1, _, e1, hm⟩ := joinMem_get _ _ b _ hb
      simp only at e1 hm
      subst e1
      rw [mergeL_ev hm, if_neg hcn]
      exact h0.blk b l2 _ h1
    · intro b x hb
      obtain ⟨_, x1, _, h1, _⟩ := joinMem_get _ _ b _ hb
      exact h0.own b x1 h1
    · intro b d x y hb hd
      obtain ⟨_, x1, _, h1, _⟩ := joinMem_get _ _ b _ hb
      obtain ⟨_, y1, _, h2, _⟩ := joinMem_get _ _ d _ hd
      exact h0.inj b d x1 y1 h1 h2
    · intro k sl hs
      obtain ⟨s1, s2, v, h1, h2, hm, rfl⟩ := joinTmps_get _ _ hl k sl hs
      rw [h0.tmp k s2 h2]
      simp only [bev_mkIteB, hc, if_false, Bool.false_eq_true, mergeT_ev hm]
  · cases h

theorem joinSt_live {c lv : E} {s t r : St} (h : joinSt c lv s t = some r) : r.live = lv ∧ s.nv ≤ r.nv ∧ t.nv ≤ r.nv ∧ s.mem.length ≤ r.mem.length ∧ t.mem.length ≤ r.mem.length := by
  unfold joinSt at h
  split at h
  · cases h
    exact ⟨rfl, Nat.le_max_left _ _, Nat.le_max_right _ _, (joinMem_length _ _).1, (joinMem_length _ _).2⟩
  · cases h
end

/-! ### Lists of exits -/
/-- One more exit. 'cond': the condition, and the live one, of the two that meet. -/
def joinOne (cond : St → St → E × E) (t : Tag) (s2 : St) : List (Tag × St) → Option (List (Tag × St))
  | [] => some [(t, s2)]
  | (t1, s1) :: l => if t1 = t then (joinSt (cond s1 s2).1 (cond s1 s2).2 s1 s2).map fun s => (t, s) :: l else (joinOne cond t s2 l).map fun r => (t1, s1) :: r
def joinAll (cond : St → St → E × E) : List (Tag × St) → List (Tag × St) → Option (List (Tag × St))
  | l, [] => some l
  | l, (t, s) :: m => match joinOne cond t s l with
    | some l' => joinAll cond l' m
    | none => none

def condOr (s1 s2 : St) : E × E := (s1.live, mkOr s1.live s2.live)
def condOf (c : E) (s1 s2 : St) : E × E := if conjIn c s1.live = true ∧ conjIn (mkNot c) s2.live = true then (c, joinLive c s1.live s2.live) else condOr s1 s2

/-- Of some ways at most one is gone. -/
structure Lives (ρ : Env) (L : E) (l : List (Tag × St)) : Prop where
  imp : ∀ p ∈ l, bev ρ p.2.live = true → bev ρ L = true
  one : l.Pairwise fun p q => ¬ (bev ρ p.2.live = true ∧ bev ρ q.2.live = true)

section
variable {S : Nat → Prop} {w0 : World} {β : Nat → Nat} {ρ : Env} {a : Act} {w : World} {cond : St → St → E × E}

/-- The way that is gone, among some. -/
def Gone (S : Nat → Prop) (w0 : World) (β : Nat → Nat) (ρ : Env) (l : List (Tag × St)) (t : Tag) (a : Act) (w : World) : Prop := ∃ s, (t, s) ∈ l ∧ bev ρ s.live = true ∧ RelA S w0 β ρ s a w

/-- What is asked of the condition at a meeting. -/
structure CondOK (cond : St → St → E × E) (ρ : Env) (s1 s2 : St) : Prop where
  or : bev ρ (cond s1 s2).2 = true → bev ρ s1.live = true ∨ bev ρ s2.live = true
  left : bev ρ s1.live = true → bev ρ s2.live = false → bev ρ (cond s1 s2).1 = true ∧ bev ρ (cond s1 s2).2 = true
  right : bev ρ s2.live = true → bev ρ s1.live = false → bev ρ (cond s1 s2).1 = false ∧ bev ρ (cond s1 s2).2 = true

theorem joinOne_mem {t : Tag} {s2 : St} : ∀ (l r : List (Tag × St)), joinOne cond t s2 l = some r → ∀ p ∈ r, p ∈ l ∨ p = (t, s2) ∨ ∃ s1, (t, s1) ∈ l ∧ p.1 = t ∧ joinSt (cond s1 s2).1 (cond s1 s2).2 s1 s2 = some p.2
  | [], r, h, p, hp => by cases h; simp at hp; exact Or.inr (Or.inl hp)
  | (t1, s1) :: l, r, h, p, hp => by
    simp only [joinOne] at h
    split at h
    · rename_i ht; subst ht
      simp only [Option.map_eq_some_iff] at h
      obtain ⟨s, hs, rfl⟩ := h
      rcases List.mem_cons.1 hp with rfl | hp
      · exact Or.inr (Or.inr ⟨s1, by simp, rfl, hs⟩)
      · exact Or.inl (List.mem_cons_of_mem _ hp)
    · simp only [Option.map_eq_some_iff] at h
      obtain ⟨r', hr, rfl⟩ := h
      rcases List.mem_cons.1 hp with rfl | hp
      · exact Or.inl (by simp)
      · rcases joinOne_mem l r' hr p hp with h | h | ⟨s, hs, h⟩
        · exact Or.inl (List.mem_cons_of_mem _ h)
        · exact Or.inr (Or.inl h)
        · exact Or.inr (Or.inr ⟨s, List.mem_cons_of_mem _ hs, h⟩)

theorem joinOne_lives {L : E} {t : Tag} {s2 : St} : ∀ (l r : List (Tag × St)), joinOne cond t s2 l = some r → (∀ s1, (t, s1) ∈ l → CondOK cond ρ s1 s2) →
    Lives ρ L l → (bev ρ s2.live = true → bev ρ L = true) → (∀ p ∈ l, ¬ (bev ρ p.2.live = true ∧ bev ρ s2.live = true)) → Lives ρ L r
  | [], r, h, _, _, h2, _ => by cases h; exact ⟨by simpa using h2, by simp⟩
  | (t1, s1) :: l, r, h, hc, hl, h2, hd => by
    have h0 := h
    simp only [joinOne] at h
    have hl1 := hl.one
    rw [List.pairwise_cons] at hl1
    split at h
    · rename_i ht; subst ht
      simp only [Option.map_eq_some_iff] at h
      obtain ⟨s, hs, rfl⟩ := h
      have hlive := (joinSt_live hs).1
      have hor : bev ρ s.live = true → bev ρ s1.live = true ∨ bev ρ s2.live = true := by rw [hlive]; exact (hc s1 (by simp)).or
      refine ⟨?_, ?_⟩
      · intro p hp hpl
        rcases List.mem_cons.1 hp with rfl | hp
        · rcases hor hpl with h | h
          · exact hl.imp (t1, s1) (by simp) h
          · exact h2 h
        · exact hl.imp p (List.mem_cons_of_mem _ hp) hpl
      · rw [List.pairwise_cons]
        refine ⟨fun q hq ⟨e1, e2⟩ => ?_, hl1.2⟩
        rcases hor e1 with h | h
        · exact hl1.1 q hq ⟨h, e2⟩
        · exact hd q (List.mem_cons_of_mem _ hq) ⟨e2, h⟩
    · simp only [Option.map_eq_some_iff] at h
      obtain ⟨r', hr, rfl⟩ := h
      have ih := joinOne_lives (L := L) l r' hr (fun s hs => hc s (List.mem_cons_of_mem _ hs)) ⟨fun p hp => hl.imp p (List.mem_cons_of_mem _ hp), hl1.2⟩ h2 (fun p hp => hd p (List.mem_cons_of_mem _ hp))
      refine ⟨?_, ?_⟩
      · intro p hp hpl
        rcases List.mem_cons.1 hp with rfl | hp
        · exact hl.imp (t1, s1) (by simp) hpl
        · exact ih.imp p hp hpl
      · rw [List.pairwise_cons]
        refine ⟨fun q hq ⟨e1, e2⟩ => ?_, ih.one⟩
        rcases joinOne_mem l r' hr q hq with h | h | ⟨s, hs, ht, hj⟩
        · exact hl1.1 q h ⟨e1, e2⟩
        · subst h; exact hd (t1, s1) (by simp) ⟨e1, e2⟩
        · rw [(joinSt_live hj).1] at e2
          rcases (hc s (List.mem_cons_of_mem _ hs)).or e2 with h | h
          · exact hl1.1 (t, s) hs ⟨e1, h⟩
          · exact hd (t1, s1) (by simp) ⟨e1, h⟩

theorem joinOne_gone {t : Tag} {s2 : St} : ∀ (l r : List (Tag × St)), joinOne cond t s2 l = some r → (∀ s1, (t, s1) ∈ l → CondOK cond ρ s1 s2) →
    (∀ p ∈ l, ¬ (bev ρ p.2.live = true ∧ bev ρ s2.live = true)) →
    (∀ t', Gone S w0 β ρ l t' a w → Gone S w0 β ρ r t' a w) ∧ (bev ρ s2.live = true → RelA S w0 β ρ s2 a w → Gone S w0 β ρ r t a w)
  | [], r, h, _, _ => by
    cases h
    exact ⟨fun t' ⟨s, hs, _⟩ => (by cases hs), fun hl hA => ⟨s2, by simp, hl, hA⟩⟩
  | (t1, s1) :: l, r, h, hc, hd => by
    simp only [joinOne] at h
    split at h
    · rename_i ht; subst ht
      simp only [Option.map_eq_some_iff] at h
      obtain ⟨s, hs, rfl⟩ := h
      have hlive := (joinSt_live hs).1
      have C := hc s1 (by simp)
      have D := hd (t1, s1) (by simp)
      refine ⟨fun t' ⟨u, hu, hul, huA⟩ => ?_, fun hl hA => ?_⟩
      · rcases List.mem_cons.1 hu with e | hu
        · cases e
          have h2 : bev ρ s2.live = false := by cases hb : bev ρ s2.live with | false => rfl | true => exact absurd ⟨hul, hb⟩ D
          obtain ⟨k1, k2⟩ := C.left hul h2
          exact ⟨s, by simp, by rw [hlive]; exact k2, joinSt_left hs k1 huA⟩
        · exact ⟨u, List.mem_cons_of_mem _ hu, hul, huA⟩
      · have h1 : bev ρ s1.live = false := by cases hb : bev ρ s1.live with | false => rfl | true => exact absurd ⟨hb, hl⟩ D
        obtain ⟨k1, k2⟩ := C.right hl h1
        exact ⟨s, by simp, by rw [hlive]; exact k2, joinSt_right hs k1 hA⟩
    · simp only [Option.map_eq_some_iff] at h
      obtain ⟨r', hr, rfl⟩ := h
      obtain ⟨i1, i2⟩ := joinOne_gone l r' hr (fun s hs => hc s (List.mem_cons_of_mem _ hs)) (fun p hp => hd p (List.mem_cons_of_mem _ hp))
      have up : ∀ t', Gone S w0 β ρ r' t' a w → Gone S w0 β ρ ((t1, s1) :: r') t' a w := fun t' ⟨u, hu, k⟩ => ⟨u, List.mem_cons_of_mem _ hu, k⟩
      refine ⟨fun t' ⟨u, hu, hul, huA⟩ => ?_, fun hl hA => up _ (i2 hl hA)⟩
      rcases List.mem_cons.1 hu with e | hu
      · cases e; exact ⟨s1, by simp, hul, huA⟩
      · exact up _ (i1 t' ⟨u, hu, hul, huA⟩)

theorem condOr_ok (s1 s2 : St) : CondOK condOr ρ s1 s2 := by
  unfold condOr
  refine ⟨fun h => ?_, fun h _ => ⟨h, ?_⟩, fun h h' => ⟨h', ?_⟩⟩
  · simpa [bev_mkOr] using h
  · simp [bev_mkOr, h]
  · simp [bev_mkOr, h]

theorem condOf_ok (c : E) (s1 s2 : St) : CondOK (condOf c) ρ s1 s2 := by
  have h0 := condOr_ok (ρ := ρ) s1 s2
  unfold condOf
  by_cases hc : conjIn c s1.live = true ∧ conjIn (mkNot c) s2.live = true
  · refine ⟨fun h => ?_, fun h _ => ?_, fun h _ => ?_⟩
    · rw [if_pos hc] at h
      simp only [joinLive_ev] at h
      split at h
      · exact Or.inl h
      · exact Or.inr h
    · rw [if_pos hc]
      have := conjIn_sound ρ c _ hc.1 h
      exact ⟨this, by simp only [joinLive_ev, this, if_true]; exact h⟩
    · rw [if_pos hc]
      have := conjIn_sound ρ _ _ hc.2 h
      rw [bev_mkNot] at this
      have : bev ρ c = false := by simpa using this
      exact ⟨this, by simp only [joinLive_ev, this, if_false, Bool.false_eq_true]; exact h⟩
  · exact ⟨fun h => by rw [if_neg hc] at h; exact h0.or h, fun h k => by rw [if_neg hc]; exact h0.left h k, fun h k => by rw [if_neg hc]; exact h0.right h k⟩

theorem joinOne_dis {t : Tag} {s2 : St} {l r : List (Tag × St)} (h : joinOne cond t s2 l = some r) (hc : ∀ s1 s2, CondOK cond ρ s1 s2) {q : Tag × St} (h1 : ∀ p ∈ l, ¬ (bev ρ p.2.live = true ∧ bev ρ q.2.live = true)) (h2 : ¬ (bev ρ s2.live = true ∧ bev ρ q.2.live = true)) :
    ∀ p ∈ r, ¬ (bev ρ p.2.live = true ∧ bev ρ q.2.live = true) := by
  intro p hp ⟨e1, e2⟩
  rcases joinOne_mem l r h p hp with h | h | ⟨s, hs, ht, hj⟩
  · exact h1 p h ⟨e1, e2⟩
  · subst h; exact h2 ⟨e1, e2⟩
  · rw [(joinSt_live hj).1] at e1
    rcases (hc s s2).or e1 with h | h
    · exact h1 _ hs ⟨h, e2⟩
    · exact h2 ⟨h, e2⟩

theorem joinAll_sound {L : E} (hc : ∀ s1 s2, CondOK cond ρ s1 s2) : ∀ (m l r : List (Tag × St)), joinAll cond l m = some r → Lives ρ L l → Lives ρ L m →
    (∀ p ∈ l, ∀ q ∈ m, ¬ (bev ρ p.2.live = true ∧ bev ρ q.2.live = true)) →
    Lives ρ L r ∧ (∀ t, Gone S w0 β ρ l t a w → Gone S w0 β ρ r t a w) ∧ (∀ t, Gone S w0 β ρ m t a w → Gone S w0 β ρ r t a w)
  | [], l, r, h, hl, _, _ => by cases h; exact ⟨hl, fun t h => h, fun t ⟨s, hs, _⟩ => (by cases hs)⟩
  | (t, s) :: m, l, r, h, hl, hm, hd => by
    simp only [joinAll] at h
    split at h
    · rename_i l' h1
      have hm1 := hm.one
      rw [List.pairwise_cons] at hm1
      have d0 : ∀ p ∈ l, ¬ (bev ρ p.2.live = true ∧ bev ρ s.live = true) := fun p hp => hd p hp (t, s) (by simp)
      have L1 := joinOne_lives (L := L) l l' h1 (fun s1 _ => hc s1 s) hl (fun e => hm.imp (t, s) (by simp) e) d0
      have G1 := joinOne_gone (S := S) (w0 := w0) (β := β) (a := a) (w := w) l l' h1 (fun s1 _ => hc s1 s) d0
      have D1 : ∀ p ∈ l', ∀ q ∈ m, ¬ (bev ρ p.2.live = true ∧ bev ρ q.2.live = true) := fun p hp q hq =>
        joinOne_dis h1 hc (fun p hp => hd p hp q (List.mem_cons_of_mem _ hq)) (hm1.1 q hq) p hp
      obtain ⟨r1, r2, r3⟩ := joinAll_sound hc m l' r h L1 ⟨fun p hp => hm.imp p (List.mem_cons_of_mem _ hp), hm1.2⟩ D1
      refine ⟨r1, fun t' hg => r2 t' (G1.1 t' hg), fun t' ⟨u, hu, hul, huA⟩ => ?_⟩
      rcases List.mem_cons.1 hu with e | hu
      · cases e; exact r2 _ (G1.2 hul huA)
      · exact r3 t' ⟨u, hu, hul, huA⟩
    · cases h

theorem joinOne_meas {t : Tag} {s2 : St} {n m : Nat} {l r : List (Tag × St)} (h : joinOne cond t s2 l = some r) (h1 : ∀ p ∈ l, n ≤ p.2.nv ∧ m ≤ p.2.mem.length) (h2 : n ≤ s2.nv ∧ m ≤ s2.mem.length) : ∀ p ∈ r, n ≤ p.2.nv ∧ m ≤ p.2.mem.length := by
  intro p hp
  rcases joinOne_mem l r h p hp with h | h | ⟨s, hs, ht, hj⟩
  · exact h1 p h
  · subst h; exact h2
  · have k := joinSt_live hj
    have := h1 _ hs
    exact ⟨Nat.le_trans this.1 k.2.1, Nat.le_trans this.2 k.2.2.2.1⟩
theorem joinAll_meas {n k : Nat} : ∀ (m l r : List (Tag × St)), joinAll cond l m = some r → (∀ p ∈ l, n ≤ p.2.nv ∧ k ≤ p.2.mem.length) → (∀ p ∈ m, n ≤ p.2.nv ∧ k ≤ p.2.mem.length) → ∀ p ∈ r, n ≤ p.2.nv ∧ k ≤ p.2.mem.length
  | [], l, r, h, hl, _ => by cases h; exact hl
  | (t, s) :: m, l, r, h, hl, hm => by
    simp only [joinAll] at h
    split at h
    · rename_i l' h1
      exact joinAll_meas m l' r h (joinOne_meas h1 hl (hm (t, s) (by simp))) fun p hp => hm p (List.mem_cons_of_mem _ hp)
    · cases h
end
end Go.Ex

namespace Go.Ex
open Go

def tagOf : Exit → Option Tag
  | .normal => some .norm
  | .ret => some .ret
  | .exit id => some (.exit id)
  | _ => none

def Post (S : Nat → Prop) (w0 : World) (β : Nat → Nat) (n : Nat) (ρ : Env) (ex : List (Tag × St)) (e : Exit) (a : Act) (w : World) : Prop :=
  ∃ t β', tagOf e = some t ∧ AgB n β β' ∧ Gone S w0 β' ρ ex t a w

/-- What an outcome says of a piece of code. -/
structure OutOK (W : (Exit → Act → World → Prop) → Act → World → Prop) (st : St) (o : Out) : Prop where
  lives : ∀ ρ, Lives ρ .tt o.exits
  agree : ∀ ρ, Agree st.nv ρ (o.env.run ρ)
  meas : ∀ p ∈ o.exits, st.nv ≤ p.2.nv ∧ st.mem.length ≤ p.2.mem.length
  sound : ∀ S w0 β ρ a w, RelA S w0 β ρ st a w → bev ρ st.live = true → o.need.holds ρ → W (Post S w0 β st.mem.length (o.env.run ρ) o.exits) a w

def Mono (W : (Exit → Act → World → Prop) → Act → World → Prop) : Prop := ∀ Q Q' a w, W Q a w → (∀ e a w, Q e a w → Q' e a w) → W Q' a w
theorem mono_wp (P : Program) (c : Code) : Mono (fun Q => c.wp P Q) := fun _ _ _ _ h hq => wp_mono h hq

def relabel (f : Tag → Tag) (l : List (Tag × St)) : Option (List (Tag × St)) := joinAll condOr [] (l.map fun p => (f p.1, p.2))
theorem relabel_sound {f : Tag → Tag} {l r : List (Tag × St)} (h : relabel f l = some r) {ρ : Env} {L : E} (hl : Lives ρ L l) :
    Lives ρ L r ∧ ∀ S w0 β a w t, Gone S w0 β ρ l t a w → Gone S w0 β ρ r (f t) a w := by
  have hm : Lives ρ L (l.map fun p => (f p.1, p.2)) := by
    refine ⟨fun p hp => ?_, ?_⟩
    · obtain ⟨q, hq, rfl⟩ := List.mem_map.1 hp; exact hl.imp q hq
    · rw [List.pairwise_map]; exact hl.one
  have key := fun S w0 β a w => joinAll_sound (S := S) (w0 := w0) (β := β) (a := a) (w := w) (L := L) condOr_ok _ [] r h ⟨by simp, by simp⟩ hm (by simp)
  refine ⟨(key (fun _ => False) default id ⟨#[], []⟩ default).1, fun S w0 β a w t ⟨s, hs, k⟩ => (key S w0 β a w).2.2 _ ⟨s, List.mem_map.2 ⟨(t, s), hs, rfl⟩, k⟩⟩
theorem relabel_meas {f : Tag → Tag} {l r : List (Tag × St)} (h : relabel f l = some r) {n m : Nat} (hl : ∀ p ∈ l, n ≤ p.2.nv ∧ m ≤ p.2.mem.length) : ∀ p ∈ r, n ≤ p.2.nv ∧ m ≤ p.2.mem.length :=
  joinAll_meas _ _ _ h (by simp) fun p hp => by obtain ⟨q, hq, rfl⟩ := List.mem_map.1 hp; exact hl q hq

def splitNorm (l : List (Tag × St)) : Option (Option St × List (Tag × St)) :=
  match l.filter fun p => decide (p.1 = .norm) with
  | [] => some (none, l)
  | [(_, s)] => some (some s, l.filter fun p => decide (p.1 ≠ .norm))
  | _ => none
theorem splitNorm_none {l r : List (Tag × St)} (h : splitNorm l = some (none, r)) : ∀ s, (Tag.norm, s) ∉ l := by
  unfold splitNorm at h
  split at h
  · rename_i he
    intro s hs
    have : (Tag.norm, s) ∈ l.filter fun p => decide (p.1 = .norm) := List.mem_filter.2 ⟨hs, by simp⟩
    rw [he] at this; cases this
  · cases h
  · cases h
theorem splitNorm_some {l r : List (Tag × St)} {s : St} (h : splitNorm l = some (some s, r)) : (∀ s', (Tag.norm, s') ∈ l → s' = s) ∧ (Tag.norm, s) ∈ l ∧ r = l.filter fun p => decide (p.1 ≠ .norm) := by
  unfold splitNorm at h
  split at h
  · cases h
  · rename_i t s0 he
    cases h
    have hm : ∀ p, p ∈ l.filter (fun p => decide (p.1 = Tag.norm)) → p = (t, s) := fun p hp => by rw [he] at hp; simpa using hp
    have h0 : (t, s) ∈ l.filter fun p => decide (p.1 = Tag.norm) := by rw [he]; simp
    have h1 := List.mem_filter.1 h0
    have ht : t = .norm := by simpa using h1.2
    subst ht
    refine ⟨fun s' hs' => ?_, h1.1, rfl⟩
    have := hm (.norm, s') (List.mem_filter.2 ⟨hs', by simp⟩)
    cases this; rfl
  · cases h

def under (L : E) (l : List (Tag × St)) : List (Tag × St) := l.map fun p => (p.1, { p.2 with live := mkAnd L p.2.live })

theorem RelA.live {S : Nat → Prop} {w0 : World} {β : Nat → Nat} {ρ : Env} {st : St} {a : Act} {w : World} (hA : RelA S w0 β ρ st a w) (l : E) : RelA S w0 β ρ { st with live := l } a w :=
  fun β' hβ => ⟨(hA β' hβ).toMRel, (hA β' hβ).size, (hA β' hβ).defers, (hA β' hβ).tmp⟩

theorem under_lives {ρ : Env} {L : E} {l : List (Tag × St)} (h : Lives ρ .tt l) : Lives ρ .tt (under L l) := by
  refine ⟨fun _ _ _ => rfl, ?_⟩
  unfold under
  rw [List.pairwise_map]
  refine h.one.imp fun {p q} hpq ⟨e1, e2⟩ => hpq ?_
  simp only [bev_mkAnd, Bool.and_eq_true] at e1 e2
  exact ⟨e1.2, e2.2⟩
theorem under_meas {L : E} {l : List (Tag × St)} {n m : Nat} (hl : ∀ p ∈ l, n ≤ p.2.nv ∧ m ≤ p.2.mem.length) : ∀ p ∈ under L l, n ≤ p.2.nv ∧ m ≤ p.2.mem.length := by
  intro p hp
  obtain ⟨q, hq, rfl⟩ := List.mem_map.1 hp
  exact hl q hq
theorem under_imp {ρ : Env} {L : E} {l : List (Tag × St)} : ∀ p ∈ under L l, bev ρ p.2.live = true → bev ρ L = true := by
  intro p hp
  obtain ⟨q, hq, rfl⟩ := List.mem_map.1 hp
  intro h
  simp only [bev_mkAnd, Bool.and_eq_true] at h
  exact h.1
theorem under_gone {S : Nat → Prop} {w0 : World} {β : Nat → Nat} {ρ : Env} {a : Act} {w : World} {L : E} {l : List (Tag × St)} (hL : bev ρ L = true) {t : Tag} (h : Gone S w0 β ρ l t a w) : Gone S w0 β ρ (under L l) t a w := by
  obtain ⟨s, hs, hl, hA⟩ := h
  exact ⟨_, List.mem_map.2 ⟨(t, s), hs, rfl⟩, by simp only [bev_mkAnd, hL, hl]; rfl, hA.live _⟩

def maxNv (l : List (Tag × St)) : Nat := l.foldl (fun n p => max n p.2.nv) 0
theorem RelA.more {S : Nat → Prop} {w0 : World} {β : Nat → Nat} {ρ : Env} {st : St} {a : Act} {w : World} (hA : RelA S w0 β ρ st a w) (l : E) (n : Nat) : RelA S w0 β ρ { st with live := l, nv := n } a w :=
  fun β' hβ => ⟨(hA β' hβ).toMRel, (hA β' hβ).size, (hA β' hβ).defers, (hA β' hβ).tmp⟩

def thenOut (o1 : Out) (k : St → Option Out) : Option Out :=
  match splitNorm o1.exits with
  | some (none, _) => some o1
  | some (some s, rest) => match k { s with live := .tt, nv := maxNv o1.exits } with
    | some o2 => if (rest.all fun p => p.2.upto (maxNv o1.exits)) = true ∧ s.live.upto (maxNv o1.exits) = true ∧ s.nv ≤ maxNv o1.exits then match joinAll condOr rest (under s.live o2.exits) with
      | some ex => some ⟨ex, ndAnd o1.need (ndAt o1.env (ndImp s.live o2.need)), evSeq o1.env o2.env⟩
      | none => none
      else none
    | none => none
  | none => none

theorem thenOut_ok {P : Program} {c : Code} {W2 : (Exit → Act → World → Prop) → Act → World → Prop} {st : St} {o1 o : Out} {k : St → Option Out} (h : thenOut o1 k = some o) (h1 : OutOK (fun Q => c.wp P Q) st o1) (hm : Mono W2)
    (hk : ∀ s o2, k s = some o2 → OutOK W2 s o2) : OutOK (fun Q => c.wp P (Exit.then (W2 Q) Q)) st o := by
  unfold thenOut at h
  split at h
  · rename_i r hs
    cases h
    refine ⟨h1.lives, h1.agree, h1.meas, fun S w0 β ρ a w hA hl hn => wp_mono (h1.sound S w0 β ρ a w hA hl hn) fun e a' w' hp => ?_⟩
    cases e with
    | normal =>
      obtain ⟨t, β', ht, _, s, hs', _⟩ := hp
      cases ht
      exact absurd hs' (splitNorm_none hs s)
    | _ => exact hp
  · rename_i s rest hs
    obtain ⟨s1, s2, s3⟩ := splitNorm_some hs
    split at h
    · rename_i o2 ho2
      split at h
      · rename_i hu
        split at h
        · rename_i ex hex
          cases h
          have h2 := hk _ o2 ho2
          obtain ⟨hu, hsl, hnv⟩ := hu
          rw [List.all_eq_true] at hu
          have hsub : ∀ p ∈ rest, p ∈ o1.exits ∧ p.1 ≠ .norm := fun p hp => by
            rw [s3] at hp
            have := List.mem_filter.1 hp
            exact ⟨this.1, by simpa using this.2⟩
          have hlr : ∀ ρ, Lives ρ .tt rest := fun ρ => ⟨fun _ _ _ => rfl, by rw [s3]; exact (h1.lives ρ).one.filter _⟩
          have hl2 : ∀ ρ, Lives ρ .tt (under s.live o2.exits) := fun ρ => under_lives (h2.lives ρ)
          have hd : ∀ ρ, ∀ p ∈ rest, ∀ q ∈ under s.live o2.exits, ¬ (bev ρ p.2.live = true ∧ bev ρ q.2.live = true) := fun ρ p hp q hq ⟨e1, e2⟩ => by
            have e3 := under_imp q hq e2
            have hp' := hsub p hp
            have hne : p ≠ (.norm, s) := fun e => hp'.2 (by rw [e])
            have := (h1.lives ρ).one
            have key : ∀ (l : List (Tag × St)), l.Pairwise (fun p q => ¬ (bev ρ p.2.live = true ∧ bev ρ q.2.live = true)) → p ∈ l → (Tag.norm, s) ∈ l → False := by
              intro l hl hpl hsl
              induction l with
              | nil => cases hpl
              | cons x l ih =>
                rw [List.pairwise_cons] at hl
                rcases List.mem_cons.1 hpl with e4 | hp4 <;> rcases List.mem_cons.1 hsl with e5 | hs5
                · exact hne (e4.trans e5.symm)
                · rw [← e4] at hl; exact hl.1 _ hs5 ⟨e1, e3⟩
                · rw [← e5] at hl; exact hl.1 _ hp4 ⟨e3, e1⟩
                · exact ih hl.2 hp4 hs5
            exact key _ this hp'.1 s2
          have ms0 := h1.meas _ s2
          have ms : st.nv ≤ maxNv o1.exits ∧ st.mem.length ≤ s.mem.length := ⟨Nat.le_trans ms0.1 hnv, ms0.2⟩
          refine ⟨fun ρ => (joinAll_sound (S := fun _ => False) (w0 := default) (β := id) (a := ⟨#[], []⟩) (w := default) condOr_ok _ _ _ hex (hlr ρ) (hl2 ρ) (hd ρ)).1,
            fun ρ => by rw [evSeq_run]; exact (h1.agree ρ).trans ((h2.agree _).mono ms.1), ?_, ?_⟩
          · exact joinAll_meas _ _ _ hex (fun p hp => h1.meas p (hsub p hp).1) (under_meas fun p hp => ⟨Nat.le_trans ms.1 (h2.meas p hp).1, Nat.le_trans ms.2 (h2.meas p hp).2⟩)
          · intro S w0 β ρ a w hA hl hn
            simp only [ndAnd_holds, ndAt_holds, ndImp_holds] at hn
            rw [evSeq_run]
            have J := fun ρ' β' a' w' => joinAll_sound (S := S) (w0 := w0) (β := β') (a := a') (w := w') condOr_ok _ _ _ hex (hlr ρ') (hl2 ρ') (hd ρ')
            refine wp_mono (h1.sound S w0 β ρ a w hA hl hn.1) fun e a' w' hp => ?_
            obtain ⟨t, β', ht, hb, u, hu', hul, huA⟩ := hp
            have other : ∀ t, t ≠ Tag.norm → (t, u) ∈ o1.exits → Gone S w0 β' (o2.env.run (o1.env.run ρ)) ex t a' w' := fun t htn hm' => by
              have hr : (t, u) ∈ rest := by rw [s3]; exact List.mem_filter.2 ⟨hm', by simpa using htn⟩
              have hup := hu _ hr
              have ha := h2.agree (o1.env.run ρ)
              have hup' := hup
              simp only [St.upto, Bool.and_eq_true] at hup'
              exact (J _ β' a' w').2.1 t ⟨u, hr, by rw [bev_agree ha hup'.2]; exact hul, huA.agree ha hup⟩
            cases e with
            | normal =>
              cases ht
              have := s1 u hu'
              subst this
              refine hm _ _ _ _ (h2.sound S w0 β' _ a' w' (huA.more _ _) rfl (hn.2 hul)) fun e2 a2 w2 hp2 => ?_
              obtain ⟨t2, β2, ht2, hb2, hg2⟩ := hp2
              exact ⟨t2, β2, ht2, hb.trans (hb2.mono ms.2), (J _ β2 a2 w2).2.2 t2 (under_gone (by rw [bev_agree (h2.agree _) hsl]; exact hul) hg2)⟩
            | ret => cases ht; exact ⟨_, β', rfl, hb, other _ (by simp) hu'⟩
            | exit id => cases ht; exact ⟨_, β', rfl, hb, other _ (by simp) hu'⟩
            | goto l => cases ht
            | panic ch => cases ht
            | outgrown => cases ht
        · cases h
      · cases h
    · cases h
  · cases h

def condOut (nv : Nat) (e m : E) (o1 o2 : Out) : Option Out :=
  if e.upto nv = true then match joinAll (condOf e) (under e o1.exits) (under (mkNot e) o2.exits) with
  | some ex => some ⟨ex, ndAnd (ndE m) (ndAnd (ndImp e o1.need) (ndImp (mkNot e) o2.need)), evIte e o1.env o2.env⟩
  | none => none
  else none

theorem condOut_ok {P : Program} {c : Operand} {x y : Code} {st : St} {e m : E} {o1 o2 o : Out} (h : condOut st.nv e m o1 o2 = some o) (hc : opnd st st.live c = some (m, .sv (.one (.bool e))))
    (h1 : OutOK (fun Q => x.wp P Q) st o1) (h2 : OutOK (fun Q => y.wp P Q) st o2) : OutOK (fun Q => (Code.cond c x y).wp P Q) st o := by
  unfold condOut at h
  split at h
  · rename_i hup
    split at h
    · rename_i ex hex
      cases h
      have l1 : ∀ ρ, Lives ρ .tt (under e o1.exits) := fun ρ => under_lives (h1.lives ρ)
      have l2 : ∀ ρ, Lives ρ .tt (under (mkNot e) o2.exits) := fun ρ => under_lives (h2.lives ρ)
      have hd : ∀ ρ, ∀ p ∈ under e o1.exits, ∀ q ∈ under (mkNot e) o2.exits, ¬ (bev ρ p.2.live = true ∧ bev ρ q.2.live = true) := fun ρ p hp q hq ⟨e1, e2⟩ => by
        have k1 := under_imp p hp e1
        have k2 := under_imp q hq e2
        rw [bev_mkNot, k1] at k2; cases k2
      refine ⟨fun ρ => (joinAll_sound (S := fun _ => False) (w0 := default) (β := id) (a := ⟨#[], []⟩) (w := default) (condOf_ok _) _ _ _ hex (l1 ρ) (l2 ρ) (hd ρ)).1, fun ρ => ?_,
        joinAll_meas _ _ _ hex (under_meas h1.meas) (under_meas h2.meas), ?_⟩
      · simp only [evIte_run]; split
        · exact h1.agree ρ
        · exact h2.agree ρ
      · intro S w0 β ρ a w hA hl hn
        simp only [ndAnd_holds, ndE_holds, ndImp_holds, bev_mkNot, Bool.not_eq_true'] at hn
        simp only [evIte_run]
        have J := fun ρ' β' a' w' => joinAll_sound (S := S) (w0 := w0) (β := β') (a := a') (w := w') (condOf_ok _) _ _ _ hex (l1 ρ') (l2 ρ') (hd ρ')
        have hev : a.eval c = .bool (bev ρ e) := opnd_sound hA.self hc hl hn.1
        refine wp_cond hev ?_
        cases he : bev ρ e with
        | true =>
          simp only [if_true] 
          refine wp_mono (h1.sound S w0 β ρ a w hA hl (hn.2.1 he)) fun e2 a2 w2 hp => ?_
          obtain ⟨t, β2, ht, hb, hg⟩ := hp
          exact ⟨t, β2, ht, hb, (J _ β2 a2 w2).2.1 t (under_gone (by rw [bev_agree (h1.agree ρ) hup]; exact he) hg)⟩
        | false =>
          simp only [Bool.false_eq_true, if_false]
          refine wp_mono (h2.sound S w0 β ρ a w hA hl (hn.2.2 he)) fun e2 a2 w2 hp => ?_
          obtain ⟨t, β2, ht, hb, hg⟩ := hp
          exact ⟨t, β2, ht, hb, (J _ β2 a2 w2).2.2 t (under_gone (by rw [bev_mkNot, bev_agree (h2.agree ρ) hup, he]; rfl) hg)⟩
    · cases h
  · cases h

/-! ### Regions -/
def drawS (P : Program) (call : Caller) (l : List Oper) (st : St) (n : Nat) : Option StepR := (List.range (n + 1)).reverse.findSome? (drawN P call l st)
def flowMax (P : Program) (call : Caller) (ops : List Oper) : List Oper → Nat → St → List Al → Nat
  | [], i, _, _ => i
  | o :: l, i, st, al => match flowStep P call ops i o st al with
    | some R => flowMax P call ops l (i + 1) R.st R.al
    | none => i
theorem drawS_some {P : Program} {call : Caller} {l : List Oper} {st : St} {R : StepR} (n : Nat) (h : drawS P call l st n = some R) : ∃ m, drawN P call l st m = some R := by
  unfold drawS at h
  obtain ⟨m, _, hm⟩ := List.exists_of_findSome?_eq_some h
  exact ⟨m, hm⟩

def regionE (P : Program) (call : Caller) (ops : List Oper) (draw : Bool) (st : St) : Option StepR :=
  if draw then drawS P call ops st (flowMax P call ops ops 0 st []) else runOps P call ops ops st

theorem regionE_ok {P : Program} {call : Caller} (hc : CallerOK P call) {id : Nat} {ops : Array Oper} {draw : Bool} {st : St} {R : StepR} (h : regionE P call ops.toList draw st = some R) :
    OutOK (fun Q => (Code.region id ops draw).wp P Q) st ⟨[(.norm, { R.st with live := .tt })], R.need, R.env⟩ := by
  have fin : ∀ {β : Nat → Nat} {S w0} {ρ : Env}, bev ρ st.live = true → Facts1 st R → ∀ β' a' w', AgB st.mem.length β β' → RelA S w0 β' (R.env.run ρ) R.st a' w' → Post S w0 β st.mem.length (R.env.run ρ) [(.norm, { R.st with live := .tt })] .normal a' w' := fun hl F β' a' w' hb hA =>
    ⟨.norm, β', rfl, hb, _, List.mem_singleton.2 rfl, rfl, hA.live _⟩
  unfold regionE at h
  split at h
  · rename_i hd
    subst hd
    obtain ⟨m, hm⟩ := drawS_some _ h
    have F := drawN_facts hc hm
    refine ⟨fun ρ => ⟨fun _ _ _ => rfl, by simp⟩, F.agree, by simpa using ⟨F.nv, F.mem⟩, fun S w0 β ρ a w hA hl hn => ?_⟩
    have := drawN_sound (Q := Post S w0 β st.mem.length (R.env.run ρ) [(.norm, { R.st with live := .tt })]) (id := id) hc hm hA hl hn (fin hl F)
    simpa using this
  · rename_i hd
    have hd' : draw = false := by simpa using hd
    subst hd'
    have F := runOps_facts hc _ _ _ h
    refine ⟨fun ρ => ⟨fun _ _ _ => rfl, by simp⟩, F.agree, by simpa using ⟨F.nv, F.mem⟩, fun S w0 β ρ a w hA hl hn => ?_⟩
    refine wp_region_list ?_
    have := runOps_sound (Q := Post S w0 β st.mem.length (R.env.run ρ) [(.norm, { R.st with live := .tt })]) hc _ _ _ β ρ a w h hA hl hn (fin hl F)
    simpa using this

/-! ### Rounds -/
def loopE (ex : St → Option Out) : Nat → St → Option Out
  | 0, _ => none
  | n + 1, st => match ex st with
    | some o1 => thenOut o1 (loopE ex n)
    | none => none

theorem mono_rounds (P : Program) (c : Code) : ∀ n, Mono (fun Q => Code.rounds P c Q n)
  | 0 => fun _ _ _ _ h _ => h.elim
  | n + 1 => fun Q Q' a w h hq => by
    refine wp_mono h fun e a' w' he => ?_
    cases e with
    | normal => exact mono_rounds P c n _ _ _ _ he hq
    | _ => exact hq _ _ _ he

theorem loopE_ok {P : Program} {c : Code} {ex : St → Option Out} (hx : ∀ st o, ex st = some o → OutOK (fun Q => c.wp P Q) st o) : ∀ n st o, loopE ex n st = some o → OutOK (fun Q => Code.rounds P c Q n) st o
  | 0, st, o, h => by cases h
  | n + 1, st, o, h => by
    simp only [loopE] at h
    split at h
    · rename_i o1 h1
      exact thenOut_ok h (hx st o1 h1) (mono_rounds P c n) (fun s o2 h2 => loopE_ok hx n s o2 h2)
    · cases h

/-! ### Code -/
def retag (id : Nat) : Tag → Tag := fun t => if t = .exit id then .norm else t

def code (P : Program) (call : Caller) (ex : Code → St → Option Out) (lim : Nat) (c : Code) (st : St) : Option Out :=
  match c with
  | .skip => some ⟨[(.norm, { st with live := .tt })], .tt, .id⟩
  | .region _ ops draw => (regionE P call ops.toList draw st).map fun R => ⟨[(.norm, { R.st with live := .tt })], R.need, R.env⟩
  | .seq x y => match ex x st with
    | some o1 => thenOut o1 (ex y)
    | none => none
  | .cond c x y => match opnd st st.live c with
    | some (m, .sv (.one (.bool e))) => match e with
      | .tt => (ex x st).map fun o => { o with need := ndAnd (ndE m) o.need }
      | .ff => (ex y st).map fun o => { o with need := ndAnd (ndE m) o.need }
      | e => match ex x st, ex y st with
        | some o1, some o2 => condOut st.nv e m o1 o2
        | _, _ => none
    | _ => none
  | .block id b => match ex b st with
    | some o => (relabel (retag id) o.exits).map fun l => { o with exits := l }
    | none => none
  | .loop b => loopE (ex b) lim st
  | .exit k => some ⟨[(.exit k, { st with live := .tt })], .tt, .id⟩
  | .ret => some ⟨[(.ret, { st with live := .tt })], .tt, .id⟩
  | _ => none

def ExOK (P : Program) (ex : Code → St → Option Out) : Prop := ∀ c st o, ex c st = some o → OutOK (fun Q => c.wp P Q) st o

theorem one_ok {W : (Exit → Act → World → Prop) → Act → World → Prop} {st : St} {t : Tag} (hW : ∀ Q a w e, tagOf e = some t → Q e a w → W Q a w) (he : ∃ e, tagOf e = some t) : OutOK W st ⟨[(t, { st with live := .tt })], .tt, .id⟩ := by
  refine ⟨fun ρ => ⟨fun _ _ _ => rfl, by simp⟩, fun ρ => Agree.refl _ _, by simp, fun S w0 β ρ a w hA hl _ => ?_⟩
  obtain ⟨e, he⟩ := he
  exact hW _ a w e he ⟨t, β, he, AgB.refl _ _, _, List.mem_singleton.2 rfl, rfl, hA.live _⟩

theorem code_ok {P : Program} {call : Caller} {ex : Code → St → Option Out} {lim : Nat} (hc : CallerOK P call) (hx : ExOK P ex) {c : Code} {st : St} {o : Out} (h : code P call ex lim c st = some o) : OutOK (fun Q => c.wp P Q) st o := by
  unfold code at h
  split at h
  · cases h
    refine one_ok (fun Q a w e he hq => ?_) ⟨.normal, rfl⟩
    cases e <;> simp [tagOf] at he
    exact wp_skip hq
  · rename_i id ops draw
    simp only [Option.map_eq_some_iff] at h
    obtain ⟨R, hR, rfl⟩ := h
    exact regionE_ok hc hR
  · rename_i x y
    split at h
    · rename_i o1 h1
      have k := thenOut_ok h (hx x st o1 h1) (mono_wp P y) (fun s o2 h2 => hx y s o2 h2)
      exact ⟨k.lives, k.agree, k.meas, fun S w0 β ρ a w hA hl hn => wp_seq (k.sound S w0 β ρ a w hA hl hn)⟩
    · cases h
  · rename_i c x y
    split at h
    · rename_i m e hop
      split at h
      · simp only [Option.map_eq_some_iff] at h
        obtain ⟨o1, h1, rfl⟩ := h
        have k := hx x st o1 h1
        refine ⟨k.lives, k.agree, k.meas, fun S w0 β ρ a w hA hl hn => ?_⟩
        simp only [ndAnd_holds, ndE_holds] at hn
        have hev : a.eval c = .bool true := opnd_sound hA.self hop hl hn.1
        exact wp_cond hev (k.sound S w0 β ρ a w hA hl hn.2)
      · simp only [Option.map_eq_some_iff] at h
        obtain ⟨o1, h1, rfl⟩ := h
        have k := hx y st o1 h1
        refine ⟨k.lives, k.agree, k.meas, fun S w0 β ρ a w hA hl hn => ?_⟩
        simp only [ndAnd_holds, ndE_holds] at hn
        have hev : a.eval c = .bool false := opnd_sound hA.self hop hl hn.1
        exact wp_cond hev (k.sound S w0 β ρ a w hA hl hn.2)
      · split at h
        · rename_i o1 o2 h1 h2
          exact condOut_ok h hop (hx x _ o1 h1) (hx y _ o2 h2)
        · cases h
    · cases h
  · rename_i id b
    split at h
    · rename_i o1 h1
      simp only [Option.map_eq_some_iff] at h
      obtain ⟨l, hr, rfl⟩ := h
      have k := hx b st o1 h1
      refine ⟨fun ρ => (relabel_sound hr (k.lives ρ)).1, k.agree, relabel_meas hr k.meas, fun S w0 β ρ a w hA hl hn => ?_⟩
      refine wp_block (wp_mono (k.sound S w0 β ρ a w hA hl hn) fun e a' w' hp => ?_)
      obtain ⟨t, β', ht, hb, hg⟩ := hp
      have hg' := (relabel_sound hr (k.lives (o1.env.run ρ))).2 S w0 β' a' w' t hg
      cases e with
      | normal => cases ht; exact ⟨_, β', rfl, hb, by simpa [retag] using hg'⟩
      | ret => cases ht; exact ⟨_, β', rfl, hb, by simpa [retag] using hg'⟩
      | exit id' =>
        cases ht
        show (if id' = id then _ else _)
        split
        · rename_i he; subst he; exact ⟨.norm, β', rfl, hb, by simpa [retag] using hg'⟩
        · rename_i he; exact ⟨.exit id', β', rfl, hb, by simpa [retag, he] using hg'⟩
      | goto l => cases ht
      | panic ch => cases ht
      | outgrown => cases ht
    · cases h
  · rename_i b
    have k := loopE_ok (fun st o => hx b st o) _ _ _ h
    exact ⟨k.lives, k.agree, k.meas, fun S w0 β ρ a w hA hl hn => wp_loop_rounds _ (k.sound S w0 β ρ a w hA hl hn)⟩
  · rename_i id
    cases h
    refine one_ok (fun Q a w e he hq => ?_) ⟨.exit id, rfl⟩
    cases e <;> simp [tagOf] at he
    subst he; exact wp_exit hq
  · cases h
    refine one_ok (fun Q a w e he hq => ?_) ⟨.ret, rfl⟩
    cases e <;> simp [tagOf] at he
    exact wp_ret hq
  · cases h
end Go.Ex

namespace Go.Ex
open Go

def resultsE (P : Program) (st : St) : List ResultVar → Option (E × List SV)
  | [] => some (.tt, [])
  | .tmp t :: l => match opnd st st.live (.tmp t), resultsE P st l with
    | some (n, .sv v), some (m, vs) => some (mkAnd n m, v :: vs)
    | _, _ => none
  | .cell t ty :: l => match opnd st st.live (.tmp t), resultsE P st l with
    | some (n, .sv (.one c)), some (m, vs) => match loadE P st ty c with
      | some (k, v) => some (mkAnd n (mkAnd (mkImp st.live k) m), v :: vs)
      | none => none
    | _, _ => none

def outOf : List SV → TV
  | [v] => .sv v
  | l => .tup l

section
variable {P : Program} {S : Nat → Prop} {w0 : World} {β : Nat → Nat} {ρ : Env} {st : St} {a : Act} {w : World}

theorem resultsE_sound (hA : Rel S w0 β ρ st a w) (hl : bev ρ st.live = true) : ∀ (l : List ResultVar) (n : E) (vs : List SV), resultsE P st l = some (n, vs) → bev ρ n = true →
    (l.mapM fun (x : ResultVar) => match x with
      | .tmp t => (pure (a.tmps.getD t undef) : Sem Value)
      | .cell p t => do loadVar t (← asAddr (a.tmps.getD p undef))).run P w = .ok (vs.map (SV.ev β ρ)) w
  | [], n, vs, h, _ => by cases h; rfl
  | .tmp t :: l, n, vs, h, hn => by
    simp only [resultsE] at h
    split at h
    · rename_i n1 v1 n2 v2 h1 h2
      cases h
      rw [bev_mkAnd, Bool.and_eq_true] at hn
      have e1 : a.tmps.getD t undef = v1.ev β ρ := opnd_sound hA h1 hl hn.1
      have ih := resultsE_sound hA hl l _ _ h2 hn.2
      simp only [List.mapM_cons, Sem.run_bind, Sem.run_pure, Result.andThen_ok, ih, List.map_cons, e1]
    · cases h
  | .cell p t :: l, n, vs, h, hn => by
    simp only [resultsE] at h
    split at h
    · rename_i n1 c n2 v2 h1 h2
      split at h
      · rename_i k v hv
        cases h
        simp only [bev_mkAnd, Bool.and_eq_true] at hn
        have e1 : a.tmps.getD p undef = c.ev β ρ := opnd_sound hA h1 hl hn.1
        obtain ⟨q, hq, hrun⟩ := loadE_sound hA hv (bev_mkImp ρ _ _ hn.2.1 hl)
        have ih := resultsE_sound hA hl l _ _ h2 hn.2.2
        rw [hq] at e1
        have ea : asAddr (.pointer (some q)) = pure q := rfl
        simp only [List.mapM_cons, Sem.run_bind, e1, ea, Sem.run_pure, Result.andThen_ok, hrun, ih, List.map_cons]
      · cases h
    · cases h

theorem results_sound (hA : Rel S w0 β ρ st a w) (hl : bev ρ st.live = true) {fn : Func} {n : E} {vs : List SV} (h : resultsE P st fn.results.toList = some (n, vs)) (hn : bev ρ n = true) :
    (results fn a.tmps).run P w = .ok ((outOf vs).ev β ρ) w := by
  have key := resultsE_sound hA hl _ _ _ h hn
  unfold results
  have hm : (fn.results.mapM fun (x : ResultVar) => match x with
      | .tmp t => (pure (a.tmps.getD t undef) : Sem Value)
      | .cell p t => do loadVar t (← asAddr (a.tmps.getD p undef))).run P w = .ok (vs.map (SV.ev β ρ)).toArray w := by
    generalize fn.results = rs at *
    obtain ⟨l⟩ := rs
    simp only [List.mapM_toArray, Sem.run_map, key, Result.andThen_ok]
  simp only [Sem.run_bind]
  refine (congrArg (fun r => Result.andThen r _) hm).trans ?_
  simp only [Result.andThen_ok, Sem.run_pure]
  congr 1
  match vs with
  | [] => simp [outOf, TV.ev]
  | [v] => simp [outOf, TV.ev]
  | v :: u :: l => simp [outOf, TV.ev]
end

def inlineE (P : Program) (ex : Code → St → Option Out) : Caller := fun f args mem live nv =>
  match P.funcs[f]? with
  | some fn => match fn.body with
    | some c => match ex c ⟨args.map (fun v => some ⟨.tt, v⟩) ++ List.replicate (fn.ntmps - args.length) none, mem, live, nv⟩ with
      | some o => if (o.exits.all fun p => decide (p.1 = .norm) || decide (p.1 = .ret)) = true then match relabel (fun _ => .ret) o.exits with
        | some [(.ret, s)] => match resultsE P s fn.results.toList with
          | some (n, vs) => some ⟨outOf vs, s.mem, s.nv, ndAnd o.need (ndAt o.env (ndImp s.live (ndE n))), o.env⟩
          | none => none
        | _ => none
        else none
      | none => none
    | none => none
  | none => none

theorem inlineE_at {P : Program} {ex : Code → St → Option Out} {f : FuncId} {args : List TV} {mem : Mem} {live : E} {nv : Nat} {R : CallR} (h : inlineE P ex f args mem live nv = some R)
    (hx : ∀ fn c st o, P.funcs[f]? = some fn → fn.body = some c → ex c st = some o → OutOK (fun Q => c.wp P Q) st o) : CallAt P f args mem live nv R := by
  unfold inlineE at h
  split at h
  · rename_i fn hf
    split at h
    · rename_i c hb
      split at h
      · rename_i o ho
        split at h
        · rename_i hall
          split at h
          · rename_i s hr
            split at h
            · rename_i n vs hv
              cases h
              have k := hx _ _ _ _ hf hb ho
              have hmeas := relabel_meas hr k.meas (.ret, s) (by simp)
              refine ⟨hmeas.1, hmeas.2, k.agree, ?_⟩
              intro S w0 β ρ w xs hm hl hn hxs
              simp only [ndAnd_holds, ndAt_holds, ndImp_holds, ndE_holds] at hn
              rw [List.all_eq_true] at hall
              refine calls_of_wp hf hb ?_
              have hlen : xs.length = args.length := by have := hxs β (AgB.refl _ _); rw [← this]; simp
              have hrel : RelA S w0 β ρ ⟨args.map (fun v => some ⟨.tt, v⟩) ++ List.replicate (fn.ntmps - args.length) none, mem, live, nv⟩ ⟨xs.toArray ++ Array.replicate (fn.ntmps - xs.toArray.size) undef, []⟩ w := by
                intro β' hβ
                refine ⟨hm β' hβ, by simp [hlen], rfl, ?_⟩
                intro t sl hs
                have hs' : (args.map (fun v => some (⟨.tt, v⟩ : Slot)) ++ List.replicate (fn.ntmps - args.length) none)[t]? = some (some sl) := hs
                rw [List.getElem?_append] at hs'
                split at hs'
                · rename_i hlt
                  rw [List.getElem?_map, Option.map_eq_some_iff] at hs'
                  obtain ⟨v, hv1, hv2⟩ := hs'
                  cases hv2
                  have hx2 := hxs β' hβ
                  have : xs[t]? = some (v.ev β' ρ) := by rw [← hx2]; simp [hv1]
                  have hlt' : t < xs.length := (List.getElem?_eq_some_iff.1 this).1
                  rw [bev_tt, if_pos rfl]
                  rw [Array.getElem?_append, if_pos (by simpa using hlt')]
                  simpa using this
                · rw [List.getElem?_replicate] at hs'
                  split at hs' <;> cases hs'
              refine wp_mono (k.sound S w0 β ρ _ w hrel hl hn.1) fun e a' w' hp => ?_
              obtain ⟨t, β', ht, hbb, hg⟩ := hp
              have hg' := (relabel_sound hr (k.lives (o.env.run ρ))).2 S w0 β' a' w' t hg
              obtain ⟨u, hu, hul, huA⟩ := hg'
              simp only [List.mem_singleton, Prod.mk.injEq, true_and] at hu
              subst hu
              have hres := results_sound huA.self hul hv (hn.2 hul)
              have hfin : a'.defers = [] ∧ ∃ v, (results fn a'.tmps).run P w' = .ok v w' ∧ ∃ β'_1 x, AgB mem.length β β'_1 ∧ MRelA S w0 β'_1 (o.env.run ρ) u.mem w' ∧ Ending.returned v = Ending.returned x ∧ ∀ β'', AgB u.mem.length β'_1 β'' → (outOf vs).ev β'' (o.env.run ρ) = x :=
                ⟨huA.self.defers, _, hres, β', _, hbb, huA.mem, rfl, fun β'' hβ => by
                  have := results_sound (huA β'' hβ) hul hv (hn.2 hul)
                  exact (run_inj this hres).1⟩
              obtain ⟨s1, hs1, _⟩ := hg
              have hta := hall (t, s1) hs1
              simp only [Bool.or_eq_true, decide_eq_true_eq] at hta
              cases e with
              | normal => exact hfin
              | ret => exact hfin
              | exit id => cases ht; rcases hta with h | h <;> cases h
              | goto l => cases ht
              | panic ch => cases ht
              | outgrown => cases ht
            · cases h
          · cases h
        · cases h
      · cases h
    · cases h
  · cases h

theorem inlineE_ok {P : Program} {ex : Code → St → Option Out} (hx : ExOK P ex) : CallerOK P (inlineE P ex) :=
  fun f args mem live nv R h => inlineE_at h fun fn c st o _ _ ho => hx c st o ho

/-- A function of which a contract is known: what it makes of symbolic arguments; how many new variables; what is owed; the variables' values. -/
structure Summ where
  fn : FuncId
  run : List TV → Nat → Option (TV × Nat × Nd × Ev)

structure SummOK (P : Program) (s : Summ) : Prop where
  ok : ∀ args nv r m N X, s.run args nv = some (r, m, N, X) → (∀ ρ, Agree nv ρ (X.run ρ)) ∧
    ∀ β ρ w, (∀ (k : Nat) (o : Obj), ρ.w.heap[k]? = some o → w.heap[k]? = some o) → N.holds ρ →
      Calls P s.fn (args.map (TV.ev β ρ)).toArray w fun e w' => e = .returned (r.ev β (X.run ρ)) ∧ RowKit.Below w.heap.size w w'

def callerOf (P : Program) (Γ : List Summ) (ex : Code → St → Option Out) : Caller := fun f args mem live nv =>
  match Γ.find? fun s => s.fn == f with
  | some s => match s.run args nv with
    | some (r, m, N, X) => if r.noPtr = true ∧ Mem.upto nv mem = true then some ⟨r, mem, nv + m, N, X⟩ else none
    | none => none
  | none => inlineE P ex f args mem live nv

theorem MRel.below {S : Nat → Prop} {w0 : World} {β : Nat → Nat} {ρ : Env} {mem : Mem} {w w' : World} (hA : MRel S w0 β ρ mem w) (hb : RowKit.Below w.heap.size w w') : MRel S w0 β ρ mem w' := by
  refine ⟨hA.rom, ?_, ?_, hA.own, hA.inj⟩
  · have k := hA.keep
    exact ⟨hb.os.trans k.os, hb.tape.trans k.tape, hb.output.trans k.output, Nat.le_trans k.size hb.size, fun i hi hS => (hb.block i (Nat.lt_of_lt_of_le hi k.size)).trans (k.block i hi hS)⟩
  · intro b l T hm
    rw [hb.block (β b) (hA.lt hm)]
    exact hA.blk b l T hm
theorem MRel.rom' {S : Nat → Prop} {w0 : World} {β : Nat → Nat} {ρ : Env} {mem : Mem} {w : World} (hA : MRel S w0 β ρ mem w) : ∀ (k : Nat) (o : Obj), ρ.w.heap[k]? = some o → w.heap[k]? = some o := by
  intro k o hk
  obtain ⟨h1, h2⟩ := hA.rom k o hk
  rw [hA.keep.block k (Array.getElem?_eq_some_iff.1 h2).1 h1, h2]

theorem callerOf_ok {P : Program} {Γ : List Summ} {ex : Code → St → Option Out} (hΓ : ∀ s ∈ Γ, SummOK P s) (hx : ExOK P ex) : CallerOK P (callerOf P Γ ex) := by
  intro f args mem live nv R h
  unfold callerOf at h
  split at h
  · rename_i s hs
    split at h
    · rename_i r m N X hr
      split at h
      · rename_i hc
        cases h
        have hfn : s.fn = f := by have := List.find?_some hs; simpa using this
        obtain ⟨h1, h2⟩ := (hΓ s (List.mem_of_find?_eq_some hs)).ok _ _ _ _ _ _ hr
        refine ⟨Nat.le_add_right _ _, Nat.le_refl _, h1, ?_⟩
        intro S w0 β ρ w xs hm hl hn hxs
        have := h2 β ρ w hm.self.rom' hn
        rw [hxs β (AgB.refl _ _), hfn] at this
        refine this.mono fun e w' ⟨he, hb⟩ => ⟨β, _, AgB.refl _ _, fun β' hβ => ((hm β' hβ).below hb).agree (h1 ρ) hc.2, he, fun β'' _ => TV.noPtr_ev _ hc.1⟩
      · cases h
    · cases h
  · exact inlineE_ok hx f args mem live nv R h

def exec (P : Program) (Γ : List Summ) (lim : Nat) : Nat → Code → St → Option Out
  | 0 => fun _ _ => none
  | n + 1 => fun c st => code P (callerOf P Γ (exec P Γ lim n)) (exec P Γ lim n) lim c st

theorem exec_ok {P : Program} {Γ : List Summ} (hΓ : ∀ s ∈ Γ, SummOK P s) (lim : Nat) : ∀ n, ExOK P (exec P Γ lim n)
  | 0 => fun c st o h => by cases h
  | n + 1 => fun c st o h => code_ok (callerOf_ok hΓ (exec_ok hΓ lim n)) (exec_ok hΓ lim n) h

/-- A function that sees no known block, called. -/
def funE (P : Program) (Γ : List Summ) (lim fuel : Nat) (f : FuncId) (args : List TV) (nv : Nat) : Option (TV × Nd × Ev) :=
  (pureCall (inlineE P (exec P Γ lim fuel)) f args .tt nv).map fun R => (R.r, R.need, R.env)

theorem funE_sound {P : Program} {Γ : List Summ} (hΓ : ∀ s ∈ Γ, SummOK P s) {lim fuel : Nat} {f : FuncId} {args : List TV} {nv : Nat} {r : TV} {N : Nd} {X : Ev} (h : funE P Γ lim fuel f args nv = some (r, N, X))
    (β : Nat → Nat) (ρ : Env) (w : World) (hrom : ∀ (k : Nat) (o : Obj), ρ.w.heap[k]? = some o → w.heap[k]? = some o) (hn : N.holds ρ) :
    Calls P f (args.map (TV.ev β ρ)).toArray w fun e w' => e = .returned (r.ev β (X.run ρ)) ∧ RowKit.Below w.heap.size w w' := by
  unfold funE at h
  simp only [Option.map_eq_some_iff, Prod.mk.injEq] at h
  obtain ⟨R, hR, rfl, rfl, rfl⟩ := h
  exact (pureCall_sound (inlineE_ok (exec_ok hΓ lim fuel)) hR hrom rfl hn).2.2
end Go.Ex

namespace Go.Ex
open Go

/-! ### New values for variables -/
structure As where
  n : Nat
  b : Bool
  e : E

def assign (ρ : Env) (A : List As) : Env where
  i := fun k => match A.find? fun a => a.n == k && !a.b with
    | some a => iev ρ a.e
    | none => ρ.i k
  b := fun k => match A.find? fun a => a.n == k && a.b with
    | some a => bev ρ a.e
    | none => ρ.b k
  w := ρ.w

theorem assign_agree {ρ : Env} {A : List As} {n : Nat} (h : A.all (fun a => decide (n ≤ a.n)) = true) : Agree n ρ (assign ρ A) := by
  rw [List.all_eq_true] at h
  refine ⟨rfl, fun k hk => ?_, fun k hk => ?_⟩
  · have : A.find? (fun a => a.n == k && !a.b) = none := by
      rw [List.find?_eq_none]
      intro a ha hc
      have := h a ha
      simp at this hc
      omega
    simp only [assign, this]
  · have : A.find? (fun a => a.n == k && a.b) = none := by
      rw [List.find?_eq_none]
      intro a ha hc
      have := h a ha
      simp at this hc
      omega
    simp only [assign, this]

def distinct : List As → Bool
  | [] => true
  | a :: l => (l.all fun x => !(x.n == a.n && x.b == a.b)) && distinct l
theorem find_of_mem {p : As → Bool} {a : As} : ∀ {A : List As}, a ∈ A → p a = true → (∀ x ∈ A, p x = true → x = a) → A.find? p = some a
  | [], h, _, _ => by cases h
  | x :: l, h, hp, hu => by
    rw [List.find?_cons]
    split
    · rename_i hx; rw [hu x (by simp) hx]
    · rename_i hx
      rcases List.mem_cons.1 h with rfl | h
      · rw [hp] at hx; cases hx
      · exact find_of_mem h hp fun y hy => hu y (List.mem_cons_of_mem _ hy)
theorem distinct_eq : ∀ {A : List As}, distinct A = true → ∀ a ∈ A, ∀ x ∈ A, x.n = a.n → x.b = a.b → x = a
  | [], _, a, h, _, _, _, _ => by cases h
  | y :: l, h, a, ha, x, hx, h1, h2 => by
    simp only [distinct, Bool.and_eq_true, List.all_eq_true] at h
    rcases List.mem_cons.1 ha with e | ha <;> rcases List.mem_cons.1 hx with e' | hx
    · rw [e, e']
    · have := h.1 x hx; rw [e] at h1 h2; simp [h1, h2] at this
    · have := h.1 a ha; rw [e'] at h1 h2; simp [← h1, ← h2] at this
    · exact distinct_eq h.2 a ha x hx h1 h2
theorem assign_i {ρ : Env} {A : List As} (h : distinct A = true) {n : Nat} {e : E} (ha : ⟨n, false, e⟩ ∈ A) : (assign ρ A).i n = iev ρ e := by
  have : A.find? (fun a => a.n == n && !a.b) = some ⟨n, false, e⟩ := find_of_mem ha (by simp) fun x hx hp => by
    simp at hp
    exact distinct_eq h _ ha x hx hp.1 hp.2
  simp only [assign, this]
theorem assign_b {ρ : Env} {A : List As} (h : distinct A = true) {n : Nat} {e : E} (ha : ⟨n, true, e⟩ ∈ A) : (assign ρ A).b n = bev ρ e := by
  have : A.find? (fun a => a.n == n && a.b) = some ⟨n, true, e⟩ := find_of_mem ha (by simp) fun x hx hp => by
    simp at hp
    exact distinct_eq h _ ha x hx hp.1 hp.2
  simp only [assign, this]

/-! ### A state that is another one's instance -/
def sameCV : CV → CV → Bool
  | .int k e, .int k' e' => decide (k = k') && decide (e = e')
  | .bool e, .bool e' => decide (e = e')
  | .ptr b o, .ptr b' o' => b == b' && o == o'
  | .pti b o s n i, .pti b' o' s' n' i' => b == b' && o == o' && s == s' && n == n' && decide (i = i')
  | .rptr x y, .rptr x' y' => decide (x = x') && decide (y = y')
  | .rsl x y l c, .rsl x' y' l' c' => decide (x = x') && decide (y = y') && decide (l = l') && decide (c = c')
  | .val v, .val v' => sameV v v'
  | _, _ => false
theorem sameCV_eq {a b : CV} (h : sameCV a b = true) : a = b := by
  unfold sameCV at h
  split at h <;> try simp only [Bool.and_eq_true, decide_eq_true_eq, beq_iff_eq] at h
  · rw [h.1, h.2]
  · rw [h]
  · rw [h.1, h.2]
  · obtain ⟨⟨⟨⟨h1, h2⟩, h3⟩, h4⟩, h5⟩ := h; rw [h1, h2, h3, h4, h5]
  · rw [h.1, h.2]
  · obtain ⟨⟨⟨h1, h2⟩, h3⟩, h4⟩ := h; rw [h1, h2, h3, h4]
  · rw [sameV_eq h]
  · cases h

/-- The template's cell, and what must be given to its variables from n0 on. -/
def matchE (n0 : Nat) (h s : CV) : Option (List As) := if sameCV h s && h.upto n0 then some [] else none
def matchCV (n0 : Nat) (h s : CV) : Option (List As) :=
  match h, s with
  | .int k (.var n), .int k' e => if n0 ≤ n then (if k = k' then some [⟨n, false, e⟩] else none) else matchE n0 (.int k (.var n)) (.int k' e)
  | .bool (.bvar n), .bool e => if n0 ≤ n then some [⟨n, true, e⟩] else matchE n0 (.bool (.bvar n)) (.bool e)
  | h, s => matchE n0 h s
def matchL (n0 : Nat) : List CV → List CV → Option (List As)
  | [], [] => some []
  | a :: l, b :: m => match matchCV n0 a b, matchL n0 l m with
    | some x, some y => some (x ++ y)
    | _, _ => none
  | _, _ => none
def matchSV (n0 : Nat) : SV → SV → Option (List As)
  | .one a, .one b => matchCV n0 a b
  | .agg l, .agg m => matchL n0 l m
  | _, _ => none
def matchSlot (n0 : Nat) : Option Slot → Option Slot → Option (List As)
  | none, _ => some []
  | some ⟨.tt, .sv v⟩, some ⟨.tt, .sv u⟩ => matchSV n0 v u
  | _, _ => none
def matchTmps (n0 : Nat) : List (Option Slot) → List (Option Slot) → Option (List As)
  | [], [] => some []
  | a :: l, b :: m => match matchSlot n0 a b, matchTmps n0 l m with
    | some x, some y => some (x ++ y)
    | _, _ => none
  | _, _ => none
def matchMem (n0 : Nat) : Mem → Mem → Option (List As)
  | [], _ => some []
  | none :: l, _ :: m => matchMem n0 l m
  | some (l, T) :: r, some (m, U) :: q => if T = U then match matchL n0 l m, matchMem n0 r q with
    | some x, some y => some (x ++ y)
    | _, _ => none
    else none
  | _, _ => none
/-- Blocks that are named are below n. -/
def CV.ptrB (n : Nat) : CV → Bool
  | .ptr b _ => decide (b < n)
  | .pti b _ _ _ _ => decide (b < n)
  | _ => true
def SV.ptrB (n : Nat) : SV → Bool
  | .one c => c.ptrB n
  | .agg l => l.all (CV.ptrB n)
def TV.ptrB (n : Nat) : TV → Bool
  | .sv s => s.ptrB n
  | .tup l => l.all (SV.ptrB n)
def St.ptrB (st : St) : Bool := st.tmps.all (optB fun s => s.v.ptrB st.mem.length) && st.mem.all (optB fun b => b.1.all (CV.ptrB st.mem.length))
theorem CV.ptrB_ev {n : Nat} {β β' : Nat → Nat} {ρ : Env} (hb : AgB n β β') (c : CV) (h : c.ptrB n = true) : c.ev β' ρ = c.ev β ρ := by
  cases c <;> try rfl
  · simp only [CV.ptrB, decide_eq_true_eq] at h; simp only [CV.ev, hb _ h]
  · simp only [CV.ptrB, decide_eq_true_eq] at h; simp only [CV.ev, hb _ h]
theorem SV.ptrB_ev {n : Nat} {β β' : Nat → Nat} {ρ : Env} (hb : AgB n β β') (c : SV) (h : c.ptrB n = true) : c.ev β' ρ = c.ev β ρ := by
  cases c with
  | one c => exact CV.ptrB_ev hb c h
  | agg l =>
    simp only [SV.ptrB, List.all_eq_true] at h
    simp only [SV.ev]
    rw [List.map_congr_left (g := CV.ev β ρ) fun c hc => CV.ptrB_ev hb c (h c hc)]
theorem TV.ptrB_ev {n : Nat} {β β' : Nat → Nat} {ρ : Env} (hb : AgB n β β') (c : TV) (h : c.ptrB n = true) : c.ev β' ρ = c.ev β ρ := by
  cases c with
  | sv c => exact SV.ptrB_ev hb c h
  | tup l =>
    simp only [TV.ptrB, List.all_eq_true] at h
    simp only [TV.ev]
    rw [List.map_congr_left (g := SV.ev β ρ) fun c hc => SV.ptrB_ev hb c (h c hc)]
theorem RelA.of_rel {S : Nat → Prop} {w0 : World} {β : Nat → Nat} {ρ : Env} {st : St} {a : Act} {w : World} (hp : st.ptrB = true) (h : Rel S w0 β ρ st a w) : RelA S w0 β ρ st a w := by
  intro β' hβ
  simp only [St.ptrB, Bool.and_eq_true, List.all_eq_true] at hp
  have hm : ∀ (b : Nat) x, st.mem[b]? = some (some x) → β' b = β b ∧ x.1.map (CV.ev β' ρ) = x.1.map (CV.ev β ρ) := fun b x hb => by
    refine ⟨hβ b (List.getElem?_eq_some_iff.1 hb).1, ?_⟩
    have := hp.2 _ (List.mem_of_getElem? hb)
    simp only [optB, List.all_eq_true] at this
    exact List.map_congr_left fun c hc => CV.ptrB_ev hβ c (this c hc)
  refine ⟨⟨h.rom, h.keep, ?_, ?_, ?_⟩, h.size, h.defers, ?_⟩
  · intro b l T hb
    obtain ⟨e1, e2⟩ := hm b _ hb
    rw [e1, e2]; exact h.blk b l T hb
  · intro b x hb; rw [(hm b x hb).1]; exact h.own b x hb
  · intro b c x y hb hc e
    rw [(hm b x hb).1, (hm c y hc).1] at e
    exact h.inj b c x y hb hc e
  · intro t s hs
    have := hp.1 _ (List.mem_of_getElem? hs)
    simp only [optB] at this
    rw [TV.ptrB_ev hβ s.v this]; exact h.tmp t s hs

def matchSt (n0 : Nat) (h s : St) : Option (List As) :=
  match matchTmps n0 h.tmps s.tmps, matchMem n0 h.mem s.mem with
  | some x, some y => if distinct (x ++ y) && (x ++ y).all (fun a => decide (n0 ≤ a.n)) && h.ptrB then some (x ++ y) else none
  | _, _ => none

section
variable {P : Program} {S : Nat → Prop} {w0 : World} {β : Nat → Nat} {ρ : Env} {a : Act} {w : World} {n0 : Nat} {A : List As}

theorem matchE_sound (hall : A.all (fun a => decide (n0 ≤ a.n)) = true) {h s : CV} {x : List As} (hm : matchE n0 h s = some x) : h.ev β (assign ρ A) = s.ev β ρ := by
  unfold matchE at hm
  split at hm
  · rename_i hc
    rw [Bool.and_eq_true] at hc
    rw [CV.agree (assign_agree hall) h hc.2, sameCV_eq hc.1]
  · cases hm

theorem matchCV_sound (hd : distinct A = true) (hall : A.all (fun a => decide (n0 ≤ a.n)) = true) {h s : CV} {x : List As} (hm : matchCV n0 h s = some x) (hx : ∀ y ∈ x, y ∈ A) : h.ev β (assign ρ A) = s.ev β ρ := by
  unfold matchCV at hm
  split at hm
  · split at hm
    · split at hm
      · rename_i hk; subst hk
        cases hm
        simp only [CV.ev, iev_var, assign_i hd (hx _ (List.mem_singleton.2 rfl))]
      · cases hm
    · exact matchE_sound hall hm
  · split at hm
    · cases hm
      simp only [CV.ev, bev_bvar, assign_b hd (hx _ (List.mem_singleton.2 rfl))]
    · exact matchE_sound hall hm
  · exact matchE_sound hall hm

theorem matchL_sound (hd : distinct A = true) (hall : A.all (fun a => decide (n0 ≤ a.n)) = true) : ∀ (l m : List CV) (x : List As), matchL n0 l m = some x → (∀ y ∈ x, y ∈ A) → l.map (CV.ev β (assign ρ A)) = m.map (CV.ev β ρ)
  | [], [], x, _, _ => rfl
  | c :: l, d :: m, x, h, hx => by
    simp only [matchL] at h
    split at h
    · rename_i x1 x2 h1 h2
      cases h
      simp only [List.map_cons, matchCV_sound hd hall h1 (fun y hy => hx y (List.mem_append_left _ hy)), matchL_sound hd hall l m x2 h2 (fun y hy => hx y (List.mem_append_right _ hy))]
    · cases h
  | [], _ :: _, _, h, _ => by simp [matchL] at h
  | _ :: _, [], _, h, _ => by simp [matchL] at h

theorem matchSV_sound (hd : distinct A = true) (hall : A.all (fun a => decide (n0 ≤ a.n)) = true) {h s : SV} {x : List As} (hm : matchSV n0 h s = some x) (hx : ∀ y ∈ x, y ∈ A) : h.ev β (assign ρ A) = s.ev β ρ := by
  unfold matchSV at hm
  split at hm
  · exact matchCV_sound hd hall hm hx
  · simp only [SV.ev, matchL_sound hd hall _ _ _ hm hx]
  · cases hm

theorem matchTmps_get (hd : distinct A = true) (hall : A.all (fun a => decide (n0 ≤ a.n)) = true) : ∀ (l m : List (Option Slot)) (x : List As), matchTmps n0 l m = some x → (∀ y ∈ x, y ∈ A) →
    l.length = m.length ∧ ∀ (t : Nat) (s : Slot), l[t]? = some (some s) → ∃ u : Slot, m[t]? = some (some u) ∧ ∀ β, (if bev (assign ρ A) s.c = true then s.v.ev β (assign ρ A) else undef) = if bev ρ u.c = true then u.v.ev β ρ else undef
  | [], [], x, _, _ => ⟨rfl, fun t s h => by simp at h⟩
  | c :: l, d :: m, x, h, hx => by
    simp only [matchTmps] at h
    split at h
    · rename_i x1 x2 h1 h2
      cases h
      obtain ⟨e1, e2⟩ := matchTmps_get hd hall l m x2 h2 (fun y hy => hx y (List.mem_append_right _ hy))
      refine ⟨by simp [e1], fun t s hs => ?_⟩
      cases t with
      | succ t => simpa using e2 t s (by simpa using hs)
      | zero =>
        simp only [List.getElem?_cons_zero, Option.some.injEq] at hs
        subst hs
        unfold matchSlot at h1
        split at h1
        · rename_i hh; cases hh
        · rename_i v u hv
          cases hv
          refine ⟨⟨.tt, .sv u⟩, rfl, fun β => ?_⟩
          simp only [bev_tt, if_true, TV.ev]
          exact matchSV_sound hd hall h1 (fun y hy => hx y (List.mem_append_left _ hy))
        · cases h1
    · cases h
  | [], _ :: _, _, h, _ => by simp [matchTmps] at h
  | _ :: _, [], _, h, _ => by simp [matchTmps] at h

theorem matchMem_get (hd : distinct A = true) (hall : A.all (fun a => decide (n0 ≤ a.n)) = true) : ∀ (l m : Mem) (x : List As), matchMem n0 l m = some x → (∀ y ∈ x, y ∈ A) →
    l.length ≤ m.length ∧ ∀ (b : Nat) r T, l[b]? = some (some (r, T)) → ∃ q, m[b]? = some (some (q, T)) ∧ ∀ β, r.map (CV.ev β (assign ρ A)) = q.map (CV.ev β ρ)
  | [], m, x, _, _ => ⟨Nat.zero_le _, fun b r T h => by simp at h⟩
  | none :: l, y :: m, x, h, hx => by
    simp only [matchMem] at h
    obtain ⟨e1, e2⟩ := matchMem_get hd hall l m x h hx
    refine ⟨by simpa using e1, fun b r T hb => ?_⟩
    cases b with
    | zero => simp at hb
    | succ b => simpa using e2 b r T (by simpa using hb)
  | some (r0, T0) :: l, some (q0, U0) :: m, x, h, hx => by
    simp only [matchMem] at h
    split at h
    · rename_i hT; subst hT
      split at h
      · rename_i x1 x2 h1 h2
        cases h
        obtain ⟨e1, e2⟩ := matchMem_get hd hall l m x2 h2 (fun y hy => hx y (List.mem_append_right _ hy))
        refine ⟨by simpa using e1, fun b r T hb => ?_⟩
        cases b with
        | succ b => simpa using e2 b r T (by simpa using hb)
        | zero =>
          simp only [List.getElem?_cons_zero, Option.some.injEq, Prod.mk.injEq] at hb
          obtain ⟨rfl, rfl⟩ := hb
          exact ⟨q0, rfl, fun β => matchL_sound hd hall _ _ _ h1 (fun y hy => hx y (List.mem_append_left _ hy))⟩
      · cases h
    · cases h
  | none :: _, [], _, h, _ => by simp [matchMem] at h
  | some _ :: _, [], _, h, _ => by simp [matchMem] at h
  | some _ :: _, none :: _, _, h, _ => by simp [matchMem] at h

theorem matchSt_sound {h s : St} (hm : matchSt n0 h s = some A) (hA : RelA S w0 β ρ s a w) : RelA S w0 β (assign ρ A) h a w ∧ A.all (fun a => decide (n0 ≤ a.n)) = true ∧ h.mem.length ≤ s.mem.length := by
  unfold matchSt at hm
  split at hm
  · rename_i x y hx hy
    split at hm
    · rename_i hc
      rw [Bool.and_eq_true, Bool.and_eq_true] at hc
      cases hm
      obtain ⟨⟨hd, hall⟩, hp⟩ := hc
      obtain ⟨t1, t2⟩ := matchTmps_get (ρ := ρ) hd hall _ _ _ hx (fun z hz => List.mem_append_left _ hz)
      obtain ⟨m1, m2⟩ := matchMem_get (ρ := ρ) hd hall _ _ _ hy (fun z hz => List.mem_append_right _ hz)
      refine ⟨RelA.of_rel hp ?_, hall, m1⟩
      have h0 := hA.self
      refine ⟨⟨h0.rom.agree (assign_agree hall), h0.keep, ?_, ?_, ?_⟩, by rw [h0.size, t1], h0.defers, ?_⟩
      · intro b l T hb
        obtain ⟨q, hq, he⟩ := m2 b l T hb
        rw [he β]; exact h0.blk b q T hq
      · intro b ⟨l, T⟩ hb
        obtain ⟨q, hq, _⟩ := m2 b l T hb
        exact h0.own b _ hq
      · intro b c ⟨l, T⟩ ⟨m, U⟩ hb hc e
        obtain ⟨q, hq, _⟩ := m2 b l T hb
        obtain ⟨r, hr, _⟩ := m2 c m U hc
        exact h0.inj b c _ _ hq hr e
      · intro t sl hs
        obtain ⟨u, hu, he⟩ := t2 t sl hs
        rw [he β]; exact h0.tmp t u hu
    · cases hm
  · cases hm

/-! ### A loop -/
/-- A loop's head, what a round makes of it, and what holds at each round's head. -/
structure LoopSum where
  n0 : Nat
  hd : St
  ob : Out
  s : St
  rest : List (Tag × St)
  A : List As
  I : Env → Prop
  μ : Env → Nat
  lbl : Nat := 0

def LoopSum.next (L : LoopSum) (ρ : Env) : Env := assign (L.ob.env.run ρ) L.A
/-- The last round's head. -/
noncomputable def LoopSum.last (L : LoopSum) : Nat → Env → Env
  | 0, ρ => ρ
  | k + 1, ρ => if bev (L.ob.env.run ρ) L.s.live = true then L.last k (L.next ρ) else ρ

structure LoopSum.OK (P : Program) (L : LoopSum) (b : Code) : Prop where
  body : OutOK (fun Q => b.wp P Q) L.hd L.ob
  split : splitNorm L.ob.exits = some (some L.s, L.rest)
  back : matchSt L.n0 L.hd L.s = some L.A
  nv : L.n0 ≤ L.hd.nv
  live : L.hd.live = .tt
  inv : ∀ ρ, L.I ρ → L.ob.need.holds ρ ∧ (bev (L.ob.env.run ρ) L.s.live = true → L.I (L.next ρ) ∧ L.μ (L.next ρ) < L.μ ρ)

theorem LoopSum.OK.next_agree {P : Program} {L : LoopSum} {b : Code} (h : L.OK P b) (ρ : Env) : Agree L.n0 ρ (L.next ρ) := by
  have hb := h.back
  unfold matchSt at hb
  split at hb
  · split at hb
    · rename_i hc
      rw [Bool.and_eq_true, Bool.and_eq_true] at hc
      simp only [Option.some.injEq] at hb
      have : L.A.all (fun a => decide (L.n0 ≤ a.n)) = true := by rw [← hb]; exact hc.1.2
      exact ((h.body.agree ρ).mono h.nv).trans (assign_agree this)
    · cases hb
  · cases hb

theorem LoopSum.OK.last_inv {P : Program} {L : LoopSum} {b : Code} (h : L.OK P b) : ∀ (k : Nat) (ρ : Env), L.I ρ → L.I (L.last k ρ) ∧ Agree L.n0 ρ (L.last k ρ)
  | 0, ρ, hI => ⟨hI, Agree.refl _ _⟩
  | k + 1, ρ, hI => by
    unfold LoopSum.last
    split
    · rename_i hl
      obtain ⟨h1, h2⟩ := h.last_inv k (L.next ρ) ((h.inv ρ hI).2 hl).1
      exact ⟨h1, (h.next_agree ρ).trans h2⟩
    · exact ⟨hI, Agree.refl _ _⟩

/-- The last round is the last. -/
theorem LoopSum.OK.last_dead {P : Program} {L : LoopSum} {b : Code} (h : L.OK P b) : ∀ (k : Nat) (ρ : Env), L.I ρ → L.μ ρ ≤ k → bev (L.ob.env.run (L.last k ρ)) L.s.live = false
  | 0, ρ, hI, hk => by
    cases hl : bev (L.ob.env.run (L.last 0 ρ)) L.s.live with
    | false => rfl
    | true => have := ((h.inv ρ hI).2 hl).2; omega
  | k + 1, ρ, hI, hk => by
    unfold LoopSum.last
    split
    · rename_i hl
      obtain ⟨h1, h2⟩ := (h.inv ρ hI).2 hl
      exact h.last_dead k (L.next ρ) h1 (by omega)
    · rename_i hl
      exact Bool.eq_false_iff.2 hl

/-- What the loop makes of a state. -/
noncomputable def LoopSum.run (L : LoopSum) (st : St) : Option Out :=
  match matchSt L.n0 L.hd st with
  | some A0 => if st.nv ≤ L.n0 ∧ L.hd.mem.length = st.mem.length then some ⟨L.rest, .p L.lbl (fun _ ρ => L.I (assign ρ A0)) [], .x L.lbl (fun _ _ ρ => L.ob.env.run (L.last (L.μ (assign ρ A0)) (assign ρ A0))) [] 0⟩ else none
  | none => none

theorem LoopSum.OK.dis {b : Code} {L : LoopSum} (h : L.OK P b) {t : Tag} {u : St} (ht : t ≠ .norm) (hu : (t, u) ∈ L.ob.exits) (ρ : Env) (hl : bev ρ u.live = true) : bev ρ L.s.live = false ∧ (t, u) ∈ L.rest := by
  obtain ⟨s1, s2, s3⟩ := splitNorm_some h.split
  refine ⟨?_, by rw [s3]; exact List.mem_filter.2 ⟨hu, by simpa using ht⟩⟩
  cases hs : bev ρ L.s.live with
  | false => rfl
  | true =>
    exfalso
    have key : ∀ (l : List (Tag × St)), l.Pairwise (fun p q => ¬ (bev ρ p.2.live = true ∧ bev ρ q.2.live = true)) → (t, u) ∈ l → (Tag.norm, L.s) ∈ l → False := by
      intro l hl' hpl hsl
      induction l with
      | nil => cases hpl
      | cons x l ih =>
        rw [List.pairwise_cons] at hl'
        rcases List.mem_cons.1 hpl with e4 | hp4 <;> rcases List.mem_cons.1 hsl with e5 | hs5
        · have := e4.trans e5.symm; cases this; exact ht rfl
        · rw [← e4] at hl'; exact hl'.1 _ hs5 ⟨hl, hs⟩
        · rw [← e5] at hl'; exact hl'.1 _ hp4 ⟨hs, hl⟩
        · exact ih hl'.2 hp4 hs5
    exact key _ (h.body.lives ρ).one hu s2

theorem LoopSum.rounds {b : Code} {L : LoopSum} (h : L.OK P b) : ∀ (k : Nat) (ρ : Env) (β : Nat → Nat) (a : Act) (w : World), L.I ρ → L.μ ρ ≤ k → RelA S w0 β ρ L.hd a w →
    Code.rounds P b (Post S w0 β L.hd.mem.length (L.ob.env.run (L.last k ρ)) L.rest) (k + 1) a w := by
  intro k
  induction k with
  | zero =>
    intro ρ β a w hI hk hA
    obtain ⟨n1, n2⟩ := h.inv ρ hI
    refine wp_mono (h.body.sound S w0 β ρ a w hA (by rw [h.live]; rfl) n1) fun e a' w' hp => ?_
    obtain ⟨t, β', ht, hb, u, hu, hul, huA⟩ := hp
    have other : t ≠ .norm → Post S w0 β L.hd.mem.length (L.ob.env.run ρ) L.rest e a' w' := fun htn => ⟨t, β', ht, hb, u, (h.dis htn hu _ hul).2, hul, huA⟩
    cases e with
    | normal =>
      cases ht
      obtain ⟨s1, _, _⟩ := splitNorm_some h.split
      have := s1 u hu
      subst this
      have := (n2 hul).2
      omega
    | ret => exact other (by cases ht; simp)
    | exit id => exact other (by cases ht; simp)
    | goto l => cases ht
    | panic ch => cases ht
    | outgrown => cases ht
  | succ k ih =>
    intro ρ β a w hI hk hA
    obtain ⟨n1, n2⟩ := h.inv ρ hI
    refine wp_mono (h.body.sound S w0 β ρ a w hA (by rw [h.live]; rfl) n1) fun e a' w' hp => ?_
    obtain ⟨t, β', ht, hb, u, hu, hul, huA⟩ := hp
    have other : t ≠ .norm → Post S w0 β L.hd.mem.length (L.ob.env.run (L.last (k + 1) ρ)) L.rest e a' w' := fun htn => by
      obtain ⟨d1, d2⟩ := h.dis htn hu _ hul
      have e1 : L.last (k + 1) ρ = ρ := by unfold LoopSum.last; rw [d1]; simp
      rw [e1]
      exact ⟨t, β', ht, hb, u, d2, hul, huA⟩
    cases e with
    | normal =>
      cases ht
      obtain ⟨s1, _, _⟩ := splitNorm_some h.split
      have := s1 u hu
      subst this
      obtain ⟨m1, m2⟩ := n2 hul
      have e1 : L.last (k + 1) ρ = L.last k (L.next ρ) := by
        conv => lhs; unfold LoopSum.last
        rw [hul]; simp
      rw [e1]
      have hr := (matchSt_sound h.back huA).1
      refine mono_rounds P b (k + 1) _ _ _ _ (ih (L.next ρ) β' a' w' m1 (by omega) hr) fun e2 a2 w2 hp2 => ?_
      obtain ⟨t2, β2, ht2, hb2, hg2⟩ := hp2
      exact ⟨t2, β2, ht2, hb.trans hb2, hg2⟩
    | ret => exact other (by cases ht; simp)
    | exit id => exact other (by cases ht; simp)
    | goto l => cases ht
    | panic ch => cases ht
    | outgrown => cases ht

theorem LoopSum.run_ok {b : Code} {L : LoopSum} (h : L.OK P b) {st : St} {o : Out} (hr : L.run st = some o) : OutOK (fun Q => (Code.loop b).wp P Q) st o := by
  unfold LoopSum.run at hr
  split at hr
  · rename_i A0 hA0
    split at hr
    · rename_i hc
      cases hr
      obtain ⟨_, _, s3⟩ := splitNorm_some h.split
      have hall : A0.all (fun a => decide (L.n0 ≤ a.n)) = true := by
        unfold matchSt at hA0
        split at hA0
        · split at hA0
          · rename_i hcc
            rw [Bool.and_eq_true, Bool.and_eq_true] at hcc
            simp only [Option.some.injEq] at hA0
            rw [← hA0]; exact hcc.1.2
          · cases hA0
        · cases hA0
      have hlast : ∀ (k : Nat) (ρ : Env), Agree L.n0 ρ (L.last k ρ) := by
        intro k
        induction k with
        | zero => intro ρ; exact Agree.refl _ _
        | succ k ih =>
          intro ρ
          unfold LoopSum.last
          split
          · exact (h.next_agree ρ).trans (ih _)
          · exact Agree.refl _ _
      refine ⟨fun ρ => ⟨fun _ _ _ => rfl, by simp only []; rw [s3]; exact (h.body.lives ρ).one.filter _⟩, fun ρ => ?_, ?_, ?_⟩
      · refine ((assign_agree hall).trans ((hlast _ _).trans ((h.body.agree _).mono h.nv))).mono hc.1
      · intro p hp
        have hp : p ∈ L.rest := hp
        rw [s3] at hp
        have := h.body.meas p (List.mem_filter.1 hp).1
        refine ⟨Nat.le_trans hc.1 (Nat.le_trans h.nv this.1), by rw [← hc.2]; exact this.2⟩
      · intro S w0 β ρ a w hA hl hn
        have hn : L.I (assign ρ A0) := hn
        have hr := (matchSt_sound hA0 hA).1
        have := LoopSum.rounds h _ _ β a w hn (Nat.le_refl _) hr
        rw [hc.2] at this
        exact wp_loop_rounds _ this
    · cases hr
  · cases hr
end
end Go.Ex

namespace Go.Ex
open Go

def codeAt : Code → List Nat → Option Code
  | c, [] => some c
  | .seq a b, i :: p => if i = 0 then codeAt a p else codeAt b p
  | .cond _ a b, i :: p => if i = 0 then codeAt a p else codeAt b p
  | .block _ b, _ :: p => codeAt b p
  | .loop b, _ :: p => codeAt b p
  | _, _ :: _ => none

theorem codeAt_append : ∀ (p : List Nat) (c d : Code) (q : List Nat), codeAt c p = some d → codeAt c (p ++ q) = codeAt d q
  | [], c, d, q, h => by simp [codeAt] at h; rw [h]; rfl
  | i :: p, c, d, q, h => by
    cases c <;> simp only [codeAt, List.cons_append] at h ⊢ <;> first | (exact codeAt_append p _ _ _ h) | (split at h <;> rename_i hi <;> simp only [hi, if_true, if_false] <;> exact codeAt_append p _ _ _ h) | (cases h)

/-- What is told of the loops of a body. -/
abbrev Loops := List Nat → St → Option Out
def LoopsOK (P : Program) (body : Code) (Λ : Loops) : Prop := ∀ p st o b, codeAt body p = some (.loop b) → Λ p st = some o → OutOK (fun Q => (Code.loop b).wp P Q) st o

def execP (P : Program) (call : Caller) (lim : Nat) (Λ : Loops) : Nat → List Nat → Code → St → Option Out
  | 0, _, _, _ => none
  | n + 1, p, c, st => match c with
    | .seq x y => match execP P call lim Λ n (p ++ [0]) x st with
      | some o1 => thenOut o1 (execP P call lim Λ n (p ++ [1]) y)
      | none => none
    | .cond c x y => match opnd st st.live c with
      | some (m, .sv (.one (.bool e))) => match e with
        | .tt => (execP P call lim Λ n (p ++ [0]) x st).map fun o => { o with need := ndAnd (ndE m) o.need }
        | .ff => (execP P call lim Λ n (p ++ [1]) y st).map fun o => { o with need := ndAnd (ndE m) o.need }
        | e => match execP P call lim Λ n (p ++ [0]) x st, execP P call lim Λ n (p ++ [1]) y st with
          | some o1, some o2 => condOut st.nv e m o1 o2
          | _, _ => none
      | _ => none
    | .block id b => match execP P call lim Λ n (p ++ [0]) b st with
      | some o => (relabel (retag id) o.exits).map fun l => { o with exits := l }
      | none => none
    | .loop b => match Λ p st with
      | some o => some o
      | none => loopE (execP P call lim Λ n (p ++ [0]) b) lim st
    | c => code P call (fun _ _ => none) lim c st

theorem execP_ok {P : Program} {call : Caller} (hc : CallerOK P call) {lim : Nat} {Λ : Loops} {body : Code} (hΛ : LoopsOK P body Λ) : ∀ (n : Nat) (p : List Nat) (c : Code) (st : St) (o : Out),
    codeAt body p = some c → execP P call lim Λ n p c st = some o → OutOK (fun Q => c.wp P Q) st o := by
  intro n
  induction n with
  | zero => intro p c st o _ h; cases h
  | succ n ih =>
    intro p c st o hp h
    have sub : ∀ i d, (codeAt c [i] = some d) → codeAt body (p ++ [i]) = some d := fun i d hd => by rw [codeAt_append p body c [i] hp]; exact hd
    unfold execP at h
    split at h
    · rename_i x y
      split at h
      · rename_i o1 h1
        have k := thenOut_ok h (ih _ x st o1 (sub 0 x (by simp [codeAt])) h1) (mono_wp P y) (fun s o2 h2 => ih _ y s o2 (sub 1 y (by simp [codeAt])) h2)
        exact ⟨k.lives, k.agree, k.meas, fun S w0 β ρ a w hA hl hn => wp_seq (k.sound S w0 β ρ a w hA hl hn)⟩
      · cases h
    · rename_i c x y
      have sx := sub 0 x (by simp [codeAt])
      have sy := sub 1 y (by simp [codeAt])
      split at h
      · rename_i m e hop
        split at h
        · simp only [Option.map_eq_some_iff] at h
          obtain ⟨o1, h1, rfl⟩ := h
          have k := ih _ x st o1 sx h1
          refine ⟨k.lives, k.agree, k.meas, fun S w0 β ρ a w hA hl hn => ?_⟩
          simp only [ndAnd_holds, ndE_holds] at hn
          have hev : a.eval c = .bool true := opnd_sound hA.self hop hl hn.1
          exact wp_cond hev (k.sound S w0 β ρ a w hA hl hn.2)
        · simp only [Option.map_eq_some_iff] at h
          obtain ⟨o1, h1, rfl⟩ := h
          have k := ih _ y st o1 sy h1
          refine ⟨k.lives, k.agree, k.meas, fun S w0 β ρ a w hA hl hn => ?_⟩
          simp only [ndAnd_holds, ndE_holds] at hn
          have hev : a.eval c = .bool false := opnd_sound hA.self hop hl hn.1
          exact wp_cond hev (k.sound S w0 β ρ a w hA hl hn.2)
        · split at h
          · rename_i o1 o2 h1 h2
            exact condOut_ok h hop (ih _ x st o1 sx h1) (ih _ y st o2 sy h2)
          · cases h
      · cases h
    · rename_i id b
      split at h
      · rename_i o1 h1
        simp only [Option.map_eq_some_iff] at h
        obtain ⟨l, hr, rfl⟩ := h
        have k := ih _ b st o1 (sub 0 b (by simp [codeAt])) h1
        refine ⟨fun ρ => (relabel_sound hr (k.lives ρ)).1, k.agree, relabel_meas hr k.meas, fun S w0 β ρ a w hA hl hn => ?_⟩
        refine wp_block (wp_mono (k.sound S w0 β ρ a w hA hl hn) fun e a' w' hp => ?_)
        obtain ⟨t, β', ht, hb, hg⟩ := hp
        have hg' := (relabel_sound hr (k.lives (o1.env.run ρ))).2 S w0 β' a' w' t hg
        cases e with
        | normal => cases ht; exact ⟨_, β', rfl, hb, by simpa [retag] using hg'⟩
        | ret => cases ht; exact ⟨_, β', rfl, hb, by simpa [retag] using hg'⟩
        | exit id' =>
          cases ht
          show (if id' = id then _ else _)
          split
          · rename_i he; subst he; exact ⟨.norm, β', rfl, hb, by simpa [retag] using hg'⟩
          · rename_i he; exact ⟨.exit id', β', rfl, hb, by simpa [retag, he] using hg'⟩
        | goto l => cases ht
        | panic ch => cases ht
        | outgrown => cases ht
      · cases h
    · rename_i b
      split at h
      · rename_i o1 h1
        cases h
        exact hΛ p st _ b hp h1
      · have k := loopE_ok (fun s o' h' => ih _ b s o' (sub 0 b (by simp [codeAt])) h') _ _ _ h
        exact ⟨k.lives, k.agree, k.meas, fun S w0 β ρ a w hA hl hn => wp_loop_rounds _ (k.sound S w0 β ρ a w hA hl hn)⟩
    · exact code_ok hc (fun c st o h => by cases h) h

/-- A function's body. -/
def bodyOf (P : Program) (f : FuncId) : Option Code := (P.funcs[f]?).bind (·.body)

/-- A piece of a function's body, run. -/
def pieceE (P : Program) (Γ : List Summ) (lim fuel : Nat) (Λ : Loops) (f : FuncId) (p : List Nat) (st : St) : Option Out :=
  (bodyOf P f).bind fun body => (codeAt body p).bind fun c => execP P (callerOf P Γ (exec P Γ lim fuel)) lim Λ fuel p c st

theorem pieceE_ok {P : Program} {Γ : List Summ} (hΓ : ∀ s ∈ Γ, SummOK P s) {lim fuel : Nat} {Λ : Loops} {f : FuncId} {body : Code} (hb : bodyOf P f = some body) (hΛ : LoopsOK P body Λ) {p : List Nat} {st : St} {o : Out}
    (h : pieceE P Γ lim fuel Λ f p st = some o) {c : Code} (hc : codeAt body p = some c) : OutOK (fun Q => c.wp P Q) st o := by
  unfold pieceE at h
  rw [hb] at h
  simp only [Option.bind_some, hc] at h
  exact execP_ok (callerOf_ok hΓ (exec_ok hΓ lim fuel)) hΛ fuel p c st o hc h

/-- A function that sees no known block, called; its loops by what is told of them. -/
def funP (P : Program) (Γ : List Summ) (lim fuel : Nat) (Λ : Loops) (f : FuncId) (args : List TV) (nv : Nat) : Option (TV × Nd × Ev) :=
  (pureCall (inlineE P (execP P (callerOf P Γ (exec P Γ lim fuel)) lim Λ fuel [])) f args .tt nv).map fun R => (R.r, R.need, R.env)

theorem funP_sound {P : Program} {Γ : List Summ} (hΓ : ∀ s ∈ Γ, SummOK P s) {lim fuel : Nat} {Λ : Loops} {f : FuncId} {body : Code} (hb : bodyOf P f = some body) (hΛ : LoopsOK P body Λ) {args : List TV} {nv : Nat} {r : TV} {N : Nd} {X : Ev}
    (h : funP P Γ lim fuel Λ f args nv = some (r, N, X)) (β : Nat → Nat) (ρ : Env) (w : World) (hrom : ∀ (k : Nat) (o : Obj), ρ.w.heap[k]? = some o → w.heap[k]? = some o) (hn : N.holds ρ) :
    (∀ ρ, Agree nv ρ (X.run ρ)) ∧ Calls P f (args.map (TV.ev β ρ)).toArray w fun e w' => e = .returned (r.ev β (X.run ρ)) ∧ RowKit.Below w.heap.size w w' := by
  unfold funP at h
  simp only [Option.map_eq_some_iff, Prod.mk.injEq] at h
  obtain ⟨R, hR, rfl, rfl, rfl⟩ := h
  refine (pureCall_sound' (fun R hR => inlineE_at hR fun fn c st o hf hc ho => ?_) hR hrom rfl hn).2
  have : body = c := by
    unfold bodyOf at hb
    rw [hf] at hb
    simp only [Option.bind_some, hc, Option.some.injEq] at hb
    exact hb.symm
  subst this
  exact execP_ok (callerOf_ok hΓ (exec_ok hΓ lim fuel)) hΛ fuel [] body st o (by simp [codeAt]) ho
end Go.Ex

namespace Go.Ex
open Go

/-- A value's shape: integers and bools. -/
inductive Sh | one (k : Kd) | agg (ks : List Kd)

/-- The arguments' numbers and bools, one by one. -/
structure Pt where
  i : Nat → Int
  b : Nat → Bool

def Kd.val (p : Pt) (j : Nat) : Kd → Value
  | .int k => .int k (p.i j)
  | .bool => .bool (p.b j)
  | .slice => undef
def kdVals (p : Pt) : Nat → List Kd → List Value
  | _, [] => []
  | j, k :: l => k.val p j :: kdVals p (j + 1) l
def Sh.val (p : Pt) (j : Nat) : Sh → Value
  | .one k => k.val p j
  | .agg ks => .agg (kdVals p j ks).toArray
def Sh.len : Sh → Nat
  | .one _ => 1
  | .agg ks => ks.length
def shVals (p : Pt) : Nat → List Sh → List Value
  | _, [] => []
  | j, s :: l => s.val p j :: shVals p (j + s.len) l
def resVal (p : Pt) (l : List Sh) : Value :=
  match l with
  | [s] => s.val p 0
  | l => .tuple (shVals p 0 l).toArray

def kdE : Kd → CV → Option E
  | .int k, .int k' e => if k = k' then some e else none
  | .bool, .bool e => some e
  | _, _ => none
def kdEs : List Kd → List CV → Option (List E)
  | [], [] => some []
  | k :: ks, c :: l => match kdE k c, kdEs ks l with
    | some e, some es => some (e :: es)
    | _, _ => none
  | _, _ => none
def shE' : Sh → TV → Option (List E)
  | .one k, .sv (.one c) => (kdE k c).map fun e => [e]
  | .agg ks, .sv (.agg l) => kdEs ks l
  | _, _ => none
def shEs : List Sh → List TV → Option (List E)
  | [], [] => some []
  | s :: ss, v :: l => match shE' s v, shEs ss l with
    | some a, some b => some (a ++ b)
    | _, _ => none
  | _, _ => none

def ptOf (es : List E) (ρ : Env) : Pt := ⟨fun j => iev ρ (es.getD j .tt), fun j => bev ρ (es.getD j .tt)⟩

def Kd.cv (n : Nat) : Kd → CV
  | .int k => .int k (.var n)
  | .bool => .bool (.bvar n)
  | .slice => .val undef
def kdCVs : Nat → List Kd → List CV
  | _, [] => []
  | n, k :: l => k.cv n :: kdCVs (n + 1) l
def Sh.sv (n : Nat) : Sh → SV
  | .one k => .one (k.cv n)
  | .agg ks => .agg (kdCVs n ks)
def shSVs : Nat → List Sh → List SV
  | _, [] => []
  | n, s :: l => s.sv n :: shSVs (n + s.len) l
def resTV (n : Nat) (l : List Sh) : TV :=
  match l with
  | [s] => .sv (s.sv n)
  | l => .tup (shSVs n l)
def shLen (l : List Sh) : Nat := (l.map Sh.len).sum

/-- The new variables get what F makes of the arguments. -/
def setVars (F : Pt → Pt) (m : Nat) (es : List E) (nv : Nat) (ρ : Env) : Env where
  i := fun k => if nv ≤ k ∧ k < nv + m then (F (ptOf es ρ)).i (k - nv) else ρ.i k
  b := fun k => if nv ≤ k ∧ k < nv + m then (F (ptOf es ρ)).b (k - nv) else ρ.b k
  w := ρ.w

theorem setVars_agree (F : Pt → Pt) (m : Nat) (es : List E) (nv : Nat) (ρ : Env) : Agree nv ρ (setVars F m es nv ρ) :=
  ⟨rfl, fun k hk => by simp only [setVars]; rw [if_neg (by omega)], fun k hk => by simp only [setVars]; rw [if_neg (by omega)]⟩
theorem setVars_i (F : Pt → Pt) (m : Nat) (es : List E) (nv : Nat) (ρ : Env) {j : Nat} (h : j < m) : (setVars F m es nv ρ).i (nv + j) = (F (ptOf es ρ)).i j := by
  simp only [setVars]; rw [if_pos (by omega), Nat.add_sub_cancel_left]
theorem setVars_b (F : Pt → Pt) (m : Nat) (es : List E) (nv : Nat) (ρ : Env) {j : Nat} (h : j < m) : (setVars F m es nv ρ).b (nv + j) = (F (ptOf es ρ)).b j := by
  simp only [setVars]; rw [if_pos (by omega), Nat.add_sub_cancel_left]

/-- A contract, as the executor takes it. -/
def flat (lbl fn : Nat) (ps rs : List Sh) (N : Option (Pt → Prop)) (F : Pt → Pt) : Summ where
  fn := fn
  run := fun args nv => match shEs ps args with
    | some es => some (resTV nv rs, shLen rs, (match N with | some N => .p lbl (fun es ρ => N (ptOf es ρ)) es | none => .tt), .x lbl (setVars F (shLen rs)) es nv)
    | none => none

section
variable {β : Nat → Nat} {ρ : Env}
theorem kdE_sound {k : Kd} {c : CV} {e : E} (h : kdE k c = some e) (hp : Pt) (j : Nat) (h1 : hp.i j = iev ρ e) (h2 : hp.b j = bev ρ e) : c.ev β ρ = k.val hp j := by
  unfold kdE at h
  split at h
  · split at h
    · rename_i hk; subst hk; cases h; simp only [CV.ev, Kd.val, h1]
    · cases h
  · cases h; simp only [CV.ev, Kd.val, h2]
  · cases h
theorem kdEs_sound : ∀ (ks : List Kd) (l : List CV) (es : List E), kdEs ks l = some es → ∀ (p : Pt) (j : Nat), (∀ q, q < es.length → p.i (j + q) = iev ρ (es.getD q .tt) ∧ p.b (j + q) = bev ρ (es.getD q .tt)) →
    l.map (CV.ev β ρ) = kdVals p j ks ∧ es.length = ks.length
  | [], [], es, h, p, j, _ => by cases h; exact ⟨rfl, rfl⟩
  | k :: ks, c :: l, es, h, p, j, hq => by
    simp only [kdEs] at h
    split at h
    · rename_i e es' h1 h2
      cases h
      have q0 := hq 0 (by simp)
      simp only [Nat.add_zero, List.getD_cons_zero] at q0
      obtain ⟨i1, i2⟩ := kdEs_sound ks l es' h2 p (j + 1) (fun q hlt => by
        have := hq (q + 1) (by simpa using hlt)
        simpa [Nat.add_assoc, Nat.add_comm 1 q] using this)
      exact ⟨by simp only [List.map_cons, kdVals, kdE_sound h1 p j q0.1 q0.2, i1], by simp [i2]⟩
    · cases h
  | [], _ :: _, _, h, _, _, _ => by simp [kdEs] at h
  | _ :: _, [], _, h, _, _, _ => by simp [kdEs] at h
theorem shE'_sound {s : Sh} {v : TV} {es : List E} (h : shE' s v = some es) (p : Pt) (j : Nat) (hq : ∀ q, q < es.length → p.i (j + q) = iev ρ (es.getD q .tt) ∧ p.b (j + q) = bev ρ (es.getD q .tt)) : v.ev β ρ = s.val p j ∧ es.length = s.len := by
  unfold shE' at h
  split at h
  · simp only [Option.map_eq_some_iff] at h
    obtain ⟨e, he, rfl⟩ := h
    have q0 := hq 0 (by simp)
    simp only [Nat.add_zero, List.getD_cons_zero] at q0
    exact ⟨kdE_sound he p j q0.1 q0.2, rfl⟩
  · obtain ⟨h1, h2⟩ := kdEs_sound (β := β) _ _ _ h p j hq
    exact ⟨by simp only [TV.ev, SV.ev, Sh.val, h1], h2⟩
  · cases h
theorem getD_left {α : Type} {d : α} (a b : List α) (q : Nat) (h : q < a.length) : (a ++ b).getD q d = a.getD q d := by
  simp only [List.getD_eq_getElem?_getD, List.getElem?_append_left h]
theorem getD_right {α : Type} {d : α} (a b : List α) (q : Nat) : (a ++ b).getD (a.length + q) d = b.getD q d := by
  simp only [List.getD_eq_getElem?_getD]
  rw [List.getElem?_append_right (by omega), show a.length + q - a.length = q by omega]
theorem shEs_sound : ∀ (ss : List Sh) (l : List TV) (es : List E), shEs ss l = some es → ∀ (p : Pt) (j : Nat), (∀ q, q < es.length → p.i (j + q) = iev ρ (es.getD q .tt) ∧ p.b (j + q) = bev ρ (es.getD q .tt)) →
    l.map (TV.ev β ρ) = shVals p j ss
  | [], [], es, h, p, j, _ => rfl
  | s :: ss, v :: l, es, h, p, j, hq => by
    simp only [shEs] at h
    split at h
    · rename_i a b h1 h2
      cases h
      obtain ⟨i1, i2⟩ := shE'_sound (β := β) (ρ := ρ) h1 p j (fun q hlt => by
        have := hq q (by simp; omega)
        rw [getD_left a b q hlt] at this
        exact this)
      have ih := shEs_sound ss l b h2 p (j + s.len) (fun q hlt => by
        have := hq (a.length + q) (by simp; omega)
        rw [getD_right a b q, ← Nat.add_assoc, i2] at this
        exact this)
      simp only [List.map_cons, shVals, i1, ih]
    · cases h
  | [], _ :: _, _, h, _, _, _ => by simp [shEs] at h
  | _ :: _, [], _, h, _, _, _ => by simp [shEs] at h

theorem kdCV_ev (p : Pt) (n j : Nat) (k : Kd) (h1 : ρ.i n = p.i j) (h2 : ρ.b n = p.b j) : (k.cv n).ev β ρ = k.val p j := by
  cases k <;> simp only [Kd.cv, CV.ev, Kd.val, iev_var, bev_bvar, h1, h2]
theorem kdCVs_ev (p : Pt) : ∀ (ks : List Kd) (n j : Nat), (∀ q, q < ks.length → ρ.i (n + q) = p.i (j + q) ∧ ρ.b (n + q) = p.b (j + q)) → (kdCVs n ks).map (CV.ev β ρ) = kdVals p j ks
  | [], _, _, _ => rfl
  | k :: ks, n, j, h => by
    have h0 := h 0 (by simp)
    simp only [kdCVs, kdVals, List.map_cons, kdCV_ev p n j k h0.1 h0.2]
    rw [kdCVs_ev p ks (n + 1) (j + 1) fun q hq => by
      have := h (q + 1) (by simpa using hq)
      simpa [Nat.add_assoc, Nat.add_comm 1 q] using this]
theorem shSV_ev (p : Pt) (s : Sh) (n j : Nat) (h : ∀ q, q < s.len → ρ.i (n + q) = p.i (j + q) ∧ ρ.b (n + q) = p.b (j + q)) : (s.sv n).ev β ρ = s.val p j := by
  cases s with
  | one k => have h0 := h 0 (by simp [Sh.len]); exact kdCV_ev p n j k h0.1 h0.2
  | agg ks => simp only [Sh.sv, SV.ev, Sh.val, kdCVs_ev p ks n j h]
theorem shSVs_ev (p : Pt) : ∀ (ss : List Sh) (n j : Nat), (∀ q, q < shLen ss → ρ.i (n + q) = p.i (j + q) ∧ ρ.b (n + q) = p.b (j + q)) → (shSVs n ss).map (SV.ev β ρ) = shVals p j ss
  | [], _, _, _ => rfl
  | s :: ss, n, j, h => by
    simp only [shSVs, shVals, List.map_cons, shSV_ev p s n j (fun q hq => h q (by simp [shLen]; omega))]
    rw [shSVs_ev p ss (n + s.len) (j + s.len) fun q hq => by
      have := h (s.len + q) (by simp [shLen] at hq ⊢; omega)
      simpa [Nat.add_assoc] using this]
theorem resTV_ev (p : Pt) (rs : List Sh) (n : Nat) (h : ∀ q, q < shLen rs → ρ.i (n + q) = p.i q ∧ ρ.b (n + q) = p.b q) : (resTV n rs).ev β ρ = resVal p rs := by
  unfold resTV resVal
  match rs with
  | [s] => exact shSV_ev p s n 0 (fun q hq => by simpa using h q (by simp [shLen]; exact hq))
  | [] => simp [TV.ev, shSVs, shVals]
  | s :: t :: l =>
    simp only [TV.ev]
    rw [shSVs_ev p (s :: t :: l) n 0 (fun q hq => by simpa using h q hq)]
end

theorem flat_ok {P : Program} {lbl fn : Nat} {ps rs : List Sh} {N : Option (Pt → Prop)} {F : Pt → Pt}
    (h : ∀ (p : Pt) (w : World), (∀ M, N = some M → M p) → Calls P fn (shVals p 0 ps).toArray w fun e w' => e = .returned (resVal (F p) rs) ∧ RowKit.Below w.heap.size w w') : SummOK P (flat lbl fn ps rs N F) := by
  refine ⟨fun args nv r m Nd' X hr => ?_⟩
  simp only [flat] at hr
  split at hr
  · rename_i es hes
    cases hr
    refine ⟨fun ρ => setVars_agree _ _ _ _ _, fun β ρ w hrom hn => ?_⟩
    have hn : ∀ M, N = some M → M (ptOf es ρ) := fun M hM => by subst hM; exact hn
    have e1 := shEs_sound (β := β) (ρ := ρ) ps args es hes (ptOf es ρ) 0 (fun q hq => by simp [ptOf])
    rw [e1]
    refine (h (ptOf es ρ) w hn).mono fun e w' ⟨he, hb⟩ => ⟨?_, hb⟩
    rw [he]
    have := resTV_ev (β := β) (ρ := (Ev.x lbl (setVars F (shLen rs)) es nv).run ρ) (F (ptOf es ρ)) rs nv (fun q hq => ⟨setVars_i F _ es nv ρ hq, setVars_b F _ es nv ρ hq⟩)
    rw [this]
  · cases hr

/-- A function of no argument that answers true. -/
def yes (fn : Nat) : Summ where
  fn := fn
  run := fun args _ => match args with
    | [] => some (TB .tt, 0, .tt, .id)
    | _ => none
theorem yes_ok {P : Program} {fn : Nat} (h : ∀ w : World, Calls P fn #[] w fun e w' => e = .returned (.bool true) ∧ RowKit.Below w.heap.size w w') : SummOK P (yes fn) := by
  refine ⟨fun args nv r m N X hr => ?_⟩
  simp only [yes] at hr
  split at hr
  · cases hr; exact ⟨fun ρ => Agree.refl _ _, fun β ρ w _ _ => h w⟩
  · cases hr

/-! ### A bool that holds, as a proposition -/
section
variable (ρ : Env) (a b c x y : E)
theorem bT_tt : (bev ρ .tt = true) = True := by simp [bev_tt]
theorem bT_ff : (bev ρ .ff = true) = False := by simp [bev_ff]
theorem bT_bvar (i : Nat) : (bev ρ (.bvar i) = true) = (ρ.b i = true) := rfl
theorem bT_not : (bev ρ (.not a) = true) = ¬ (bev ρ a = true) := by simp [bev_not]
theorem bT_and : (bev ρ (.and a b) = true) = (bev ρ a = true ∧ bev ρ b = true) := by simp [bev_and]
theorem bT_or : (bev ρ (.or a b) = true) = (bev ρ a = true ∨ bev ρ b = true) := by simp [bev_or]
theorem bT_ite : (bev ρ (.ite c a b) = true) = if bev ρ c = true then bev ρ a = true else bev ρ b = true := by rw [bev_ite]; split <;> rfl
theorem bT_lt : (bev ρ (.lt a b) = true) = (iev ρ a < iev ρ b) := by simp [bev_lt]
theorem bT_le : (bev ρ (.le a b) = true) = (iev ρ a ≤ iev ρ b) := by simp [bev_le]
theorem bT_eq : (bev ρ (.eq a b) = true) = (iev ρ a = iev ρ b) := by simp [bev_eq]
theorem bT_beq : (bev ρ (.beq a b) = true) = ((bev ρ a = true) = (bev ρ b = true)) := by rw [bev_beq]; cases bev ρ a <;> cases bev ρ b <;> simp
theorem bT_romIs (j : Nat) (k : Kd) : (bev ρ (.romIs x y j k) = true) = (valIs (romCell ρ.w (iev ρ x) (iev ρ y) j) k = true) := rfl
end
end Go.Ex

namespace Go.Ex
open Go

/-- A cell's shape: a slice is told by four numbers. -/
inductive Ck | int (k : IntKind) | bool | sl
inductive Sw | one (k : Ck) | agg (ks : List Ck)
def Ck.len : Ck → Nat
  | .sl => 4
  | _ => 1
def Ck.val (p : Pt) (j : Nat) : Ck → Value
  | .int k => .int k (p.i j)
  | .bool => .bool (p.b j)
  | .sl => .slice (slP (p.i j) (p.i (j + 1))) (p.i (j + 2)).toNat (p.i (j + 3)).toNat
def ckVals (p : Pt) : Nat → List Ck → List Value
  | _, [] => []
  | j, k :: l => k.val p j :: ckVals p (j + k.len) l
def ckLen (l : List Ck) : Nat := (l.map Ck.len).sum
def Sw.val (p : Pt) (j : Nat) : Sw → Value
  | .one k => k.val p j
  | .agg ks => .agg (ckVals p j ks).toArray
def Sw.len : Sw → Nat
  | .one k => k.len
  | .agg ks => ckLen ks
def swVals (p : Pt) : Nat → List Sw → List Value
  | _, [] => []
  | j, s :: l => s.val p j :: swVals p (j + s.len) l

def ckE : Ck → CV → Option (List E)
  | .int k, .int k' e => if k = k' then some [e] else none
  | .bool, .bool e => some [e]
  | .sl, .rsl x y l c => some [x, y, l, c]
  | _, _ => none
def ckEs : List Ck → List CV → Option (List E)
  | [], [] => some []
  | k :: ks, c :: l => match ckE k c, ckEs ks l with
    | some e, some es => some (e ++ es)
    | _, _ => none
  | _, _ => none
def swE : Sw → TV → Option (List E)
  | .one k, .sv (.one c) => ckE k c
  | .agg ks, .sv (.agg l) => ckEs ks l
  | _, _ => none
def swEs : List Sw → List TV → Option (List E)
  | [], [] => some []
  | s :: ss, v :: l => match swE s v, swEs ss l with
    | some a, some b => some (a ++ b)
    | _, _ => none
  | _, _ => none

section
variable {β : Nat → Nat} {ρ : Env}
/-- A point's numbers and bools from j on are these expressions'. -/
def PtAt (ρ : Env) (p : Pt) (j : Nat) (es : List E) : Prop := ∀ q, q < es.length → p.i (j + q) = iev ρ (es.getD q .tt) ∧ p.b (j + q) = bev ρ (es.getD q .tt)
theorem PtAt.left {p : Pt} {j : Nat} {a b : List E} (h : PtAt ρ p j (a ++ b)) : PtAt ρ p j a := fun q hq => by
  have := h q (by simp; omega)
  rwa [getD_left a b q hq] at this
theorem PtAt.right {p : Pt} {j : Nat} {a b : List E} (h : PtAt ρ p j (a ++ b)) : PtAt ρ p (j + a.length) b := fun q hq => by
  have := h (a.length + q) (by simp; omega)
  rwa [getD_right a b q, ← Nat.add_assoc] at this
theorem ckE_sound {k : Ck} {c : CV} {es : List E} (h : ckE k c = some es) (p : Pt) (j : Nat) (hq : PtAt ρ p j es) : c.ev β ρ = k.val p j ∧ es.length = k.len := by
  unfold ckE at h
  split at h
  · split at h
    · rename_i hk; subst hk; cases h
      have q0 := hq 0 (by simp)
      simp only [Nat.add_zero, List.getD_cons_zero] at q0
      exact ⟨by simp only [CV.ev, Ck.val, q0.1], rfl⟩
    · cases h
  · cases h
    have q0 := hq 0 (by simp)
    simp only [Nat.add_zero, List.getD_cons_zero] at q0
    exact ⟨by simp only [CV.ev, Ck.val, q0.2], rfl⟩
  · cases h
    have q0 := hq 0 (by simp)
    have q1 := hq 1 (by simp)
    have q2 := hq 2 (by simp)
    have q3 := hq 3 (by simp)
    simp only [Nat.add_zero, List.getD_cons_zero, List.getD_cons_succ] at q0 q1 q2 q3
    exact ⟨by simp only [CV.ev, Ck.val, q0.1, q1.1, q2.1, q3.1], rfl⟩
  · cases h
theorem ckEs_sound : ∀ (ks : List Ck) (l : List CV) (es : List E), ckEs ks l = some es → ∀ (p : Pt) (j : Nat), PtAt ρ p j es → l.map (CV.ev β ρ) = ckVals p j ks ∧ es.length = ckLen ks
  | [], [], es, h, p, j, _ => by cases h; exact ⟨rfl, rfl⟩
  | k :: ks, c :: l, es, h, p, j, hq => by
    simp only [ckEs] at h
    split at h
    · rename_i e es' h1 h2
      cases h
      obtain ⟨a1, a2⟩ := ckE_sound (β := β) h1 p j hq.left
      have hr := hq.right
      rw [a2] at hr
      obtain ⟨b1, b2⟩ := ckEs_sound ks l es' h2 p (j + k.len) hr
      exact ⟨by simp only [List.map_cons, ckVals, a1, b1], by simp [ckLen, a2] at b2 ⊢; omega⟩
    · cases h
  | [], _ :: _, _, h, _, _, _ => by simp [ckEs] at h
  | _ :: _, [], _, h, _, _, _ => by simp [ckEs] at h
theorem swE_sound {s : Sw} {v : TV} {es : List E} (h : swE s v = some es) (p : Pt) (j : Nat) (hq : PtAt ρ p j es) : v.ev β ρ = s.val p j ∧ es.length = s.len := by
  unfold swE at h
  split at h
  · exact ckE_sound h p j hq
  · obtain ⟨h1, h2⟩ := ckEs_sound (β := β) _ _ _ h p j hq
    exact ⟨by simp only [TV.ev, SV.ev, Sw.val, h1], h2⟩
  · cases h
theorem swEs_sound : ∀ (ss : List Sw) (l : List TV) (es : List E), swEs ss l = some es → ∀ (p : Pt) (j : Nat), PtAt ρ p j es → l.map (TV.ev β ρ) = swVals p j ss
  | [], [], es, h, p, j, _ => rfl
  | s :: ss, v :: l, es, h, p, j, hq => by
    simp only [swEs] at h
    split at h
    · rename_i a b h1 h2
      cases h
      obtain ⟨i1, i2⟩ := swE_sound (β := β) h1 p j hq.left
      have hr := hq.right
      rw [i2] at hr
      have ih := swEs_sound ss l b h2 p (j + s.len) hr
      simp only [List.map_cons, swVals, i1, ih]
    · cases h
  | [], _ :: _, _, h, _, _, _ => by simp [swEs] at h
  | _ :: _, [], _, h, _, _, _ => by simp [swEs] at h
end

/-- A contract that reads memory, as the executor takes it. -/
def flatW (lbl fn : Nat) (ps : List Sw) (rs : List Sh) (N : Pt → World → Prop) (F : Pt → World → Pt) : Summ where
  fn := fn
  run := fun args nv => match swEs ps args with
    | some es => some (resTV nv rs, shLen rs, .p lbl (fun es ρ => N (ptOf es ρ) ρ.w) es, .x lbl (fun es nv ρ => setVars (fun p => F p ρ.w) (shLen rs) es nv ρ) es nv)
    | none => none
theorem flatW_ok {P : Program} {lbl fn : Nat} {ps : List Sw} {rs : List Sh} {N : Pt → World → Prop} {F : Pt → World → Pt}
    (h : ∀ (p : Pt) (W w : World), (∀ (k : Nat) (o : Obj), W.heap[k]? = some o → w.heap[k]? = some o) → N p W → Calls P fn (swVals p 0 ps).toArray w fun e w' => e = .returned (resVal (F p W) rs) ∧ RowKit.Below w.heap.size w w') : SummOK P (flatW lbl fn ps rs N F) := by
  refine ⟨fun args nv r m Nd' X hr => ?_⟩
  simp only [flatW] at hr
  split at hr
  · rename_i es hes
    cases hr
    refine ⟨fun ρ => setVars_agree (fun p => F p ρ.w) (shLen rs) es nv ρ, fun β ρ w hrom hn => ?_⟩
    have e1 := swEs_sound (β := β) (ρ := ρ) ps args es hes (ptOf es ρ) 0 (fun q hq => by simp [ptOf])
    rw [e1]
    refine (h (ptOf es ρ) ρ.w w hrom hn).mono fun e w' ⟨he, hb⟩ => ⟨?_, hb⟩
    rw [he]
    have := resTV_ev (β := β) (ρ := setVars (fun p => F p ρ.w) (shLen rs) es nv ρ) (F (ptOf es ρ) ρ.w) rs nv (fun q hq => ⟨setVars_i _ _ es nv ρ hq, setVars_b _ _ es nv ρ hq⟩)
    exact congrArg Ending.returned this.symm
  · cases hr
end Go.Ex
