/- A region that draws its order of evaluation, walked once: operations that only read, call functions that only make new memory, or make new memory themselves, may come up in any order that the edges allow. Conditions: none of these operations writes to memory that was there; each waits for what it names. -/
import Derived.WalkKit
import Derived.Still
import Derived.StillTail
set_option linter.unusedSimpArgs false
set_option linter.unusedVariables false
set_option linter.constructorNameAsVariable false
namespace Go.Flow
open Go.RowKit

/-- Only new memory came: every block that was there is as it was. -/
abbrev Grow (w w' : World) : Prop := Below w.heap.size w w'

theorem Grow.refl (w : World) : Grow w w := Below.refl _ _
theorem Grow.trans {a b c : World} (h : Grow a b) (k : Grow b c) : Grow a c := Below.trans h (k.mono h.size)
theorem Grow.drew (w : World) : Grow w w.drew := (Below.refl _ _).drew
theorem Grow.alloc (w : World) (o : Obj) : Grow w (w.alloc o) := (Below.refl _ _).alloc (Nat.le_refl _) o
theorem Grow.cellEq {w w' : World} (h : Grow w w') {p : Addr} (hp : p.block < w.heap.size) : w'.cell? p = w.cell? p := h.cell hp
theorem block_lt_of_cell {w : World} {a : Addr} {v : Value} (h : w.cell? a = some v) : a.block < w.heap.size := by
  unfold World.cell? at h
  split at h
  · rename_i hb; exact (Array.getElem?_eq_some_iff.1 hb).1
  · cases h
theorem Grow.cell {w w' : World} (h : Grow w w') {a : Addr} {v : Value} (hc : w.cell? a = some v) : w'.cell? a = some v := by
  rw [h.cellEq (block_lt_of_cell hc)]; exact hc
theorem Grow.blk {w w' : World} (h : Grow w w') {b : Nat} {o : Obj} (hc : w.heap[b]? = some o) : w'.heap[b]? = some o := by
  rw [h.block b (Array.getElem?_eq_some_iff.1 hc).1]; exact hc

/-- The value of an operation, and the blocks that came while it ran: from lo on, below hi. -/
structure Born where
  val : Value
  lo : Nat
  hi : Nat

abbrev Vals := Nat → Born
abbrev Fact := Vals → World → Prop

section
variable (P : Program) (ops : Array Oper) (M : Array Nat) (W : World)

def isAnc (i j : Nat) : Bool := (M.getD i 0).testBit j

/-- What an operation's fact may speak of: itself and what it waits for. -/
def mask (i : Nat) (x : Vals) : Vals := fun k => if k = i ∨ isAnc M i k = true then x k else ⟨undef, 0, 0⟩

def upd (x : Vals) (i : Nat) (b : Born) : Vals := fun k => if k = i then b else x k

/-- The operation yields v, in a world in which only new memory came, and R holds. -/
def newUpon (w : World) (R : Born → World → Prop) : Result Next → Prop
  | .ok (.value v) w' => Grow w w' ∧ R ⟨v, w.heap.size, w'.heap.size⟩ w'
  | .ok .skip w' => Grow w w' ∧ R ⟨undef, w.heap.size, w'.heap.size⟩ w'
  | .ok (.enter f args) w' => Grow w w' ∧ Calls P f args w' fun e w'' => ∃ v, e = .returned v ∧ Grow w w'' ∧ R ⟨v, w.heap.size, w''.heap.size⟩ w''
  | _ => False

def newAt (o : Oper) (a : Act) (w : World) (R : Born → World → Prop) : Prop := newUpon P w R ((execOp a.eval o).run P w)

theorem newUpon_mono {w : World} {R R' : Born → World → Prop} (h : ∀ b w', Grow w w' → R b w' → R' b w') : ∀ {r : Result Next}, newUpon P w R r → newUpon P w R' r
  | .ok (.value _) _, k => ⟨k.1, h _ _ k.1 k.2⟩
  | .ok .skip _, k => ⟨k.1, h _ _ k.1 k.2⟩
  | .ok (.enter _ _) _, k => ⟨k.1, k.2.mono fun _ _ ⟨v, he, hg, hr⟩ => ⟨v, he, hg, h _ _ hg hr⟩⟩
  | .ok (.defer _) _, k => k.elim
  | .ok (.row _ _) _, k => k.elim
  | .halt _ _, k => k.elim

theorem wp_of_newAt {o : Oper} {a : Act} {w : World} {R : Born → World → Prop} {K : Act → World → Prop} {Q : Exit → Act → World → Prop}
    (h : newAt P o a w R) (hK : ∀ v w', Grow w w' → R ⟨v, w.heap.size, w'.heap.size⟩ w' → K (a.put o.dst v) w') : o.wp P a w K Q := by
  unfold newAt at h
  unfold Oper.wp
  generalize (execOp a.eval o).run P w = r at *
  cases r with
  | ok n w' =>
    cases n <;> simp only [newUpon] at h <;> simp only [Oper.upon]
    case value v => exact hK _ _ h.1 h.2
    case skip => exact hK _ _ h.1 h.2
    case enter f args => exact h.2.mono fun e w'' ⟨v, he, hg, hr⟩ => by subst he; exact hK _ _ hg hr
  | halt x w' => simp only [newUpon] at h

/-- How an operation comes to its value: always the same one; one of which a fact is known; or it isn't wanted. -/
inductive Kind where
  | const (v : Value)
  | new (T : Fact)
  | skip

def Kind.val (k : Kind) (i : Nat) (x : Vals) : Value :=
  match k with
  | .const v => v
  | .new _ => (x i).val
  | .skip => undef

/-- The facts that operation i may lean on. -/
def Facts (Ts : List (Nat × Kind)) (i : Nat) (x : Vals) (w : World) : Prop := ∀ j T, (j, Kind.new T) ∈ Ts → isAnc M i j = true → T (mask M j x) w

def AllFacts (Ts : List (Nat × Kind)) (x : Vals) (w : World) : Prop := ∀ j T, (j, Kind.new T) ∈ Ts → T (mask M j x) w

/-- New operations' blocks are apart. -/
def Apart (Ts : List (Nat × Kind)) (x : Vals) (W w : World) : Prop :=
  (∀ j T, (j, Kind.new T) ∈ Ts → W.heap.size ≤ (x j).lo ∧ (x j).lo ≤ (x j).hi ∧ (x j).hi ≤ w.heap.size) ∧
  (∀ j T k U, (j, Kind.new T) ∈ Ts → (k, Kind.new U) ∈ Ts → j ≠ k → (x j).hi ≤ (x k).lo ∨ (x k).hi ≤ (x j).lo)

def Spec (Ts : List (Nat × Kind)) (A : Vals → Act) (i : Nat) (o : Oper) : Kind → Prop
  | .const v => ∀ x w, Grow W w → Facts M Ts i x w → Region.wanted o (yielded ops (A x).tmps) = true ∧ newAt P o (A x) w (fun b _ => b.val = v)
  | .new T => (∀ x w w', Grow w w' → T x w → T x w') ∧
      ∀ x w, Grow W w → Facts M Ts i x w → Region.wanted o (yielded ops (A x).tmps) = true ∧ newAt P o (A x) w (fun b w' => T (mask M i (upd x i b)) w')
  | .skip => ∀ x w, Grow W w → Facts M Ts i x w → Region.wanted o (yielded ops (A x).tmps) = false

/-- The walk in the order of the list. -/
def wpFlow (Fin : List (Nat × Kind) → (Vals → Act) → Prop) : List Nat → List (Nat × Kind) → (Vals → Act) → Prop
  | [], Ts, A => Fin Ts A
  | i :: H, Ts, A => ∃ o k, ops[i]? = some o ∧ Spec P ops M W Ts A i o k ∧ wpFlow Fin H (Ts ++ [(i, k)]) (fun x => (A x).put o.dst (k.val i x))

def dstOf (i : Nat) : Option Tmp := (ops[i]?).bind (·.dst)

/-- The frame behind those of the list that have come up. -/
def frame (D : Nat → Bool) (x : Vals) : List (Nat × Kind) → Act → Act
  | [], a => a
  | (i, k) :: E, a => frame D x E (if D i then a.put (dstOf ops i) (k.val i x) else a)

def SpecAll (a0 : Act) : List (Nat × Kind) → List (Nat × Kind) → Prop
  | _, [] => True
  | pre, (i, k) :: E => (∃ o, ops[i]? = some o ∧ Spec P ops M W pre (fun x => frame ops (fun _ => true) x pre a0) i o k) ∧ SpecAll a0 (pre ++ [(i, k)]) E

theorem frame_append (D : Nat → Bool) (x : Vals) : ∀ (E F : List (Nat × Kind)) (a : Act), frame ops D x (E ++ F) a = frame ops D x F (frame ops D x E a)
  | [], _, _ => rfl
  | (i, k) :: E, F, a => by simp only [List.cons_append, frame]; exact frame_append D x E F _

theorem flow_specs {Fin : List (Nat × Kind) → (Vals → Act) → Prop} {a0 : Act} : ∀ (H : List Nat) (pre : List (Nat × Kind)),
    wpFlow P ops M W Fin H pre (fun x => frame ops (fun _ => true) x pre a0) →
    ∃ E, E.map (·.1) = H ∧ SpecAll P ops M W a0 pre E ∧ Fin (pre ++ E) (fun x => frame ops (fun _ => true) x (pre ++ E) a0)
  | [], pre, h => ⟨[], rfl, trivial, by simpa [wpFlow] using h⟩
  | i :: H, pre, h => by
    obtain ⟨o, k, ho, hs, hr⟩ := h
    have e : (fun x => (frame ops (fun _ => true) x pre a0).put o.dst (k.val i x)) = (fun x => frame ops (fun _ => true) x (pre ++ [(i, k)]) a0) := by
      funext x; simp [frame_append, frame, dstOf, ho]
    rw [e] at hr
    obtain ⟨E, hE, hsa, hf⟩ := flow_specs H (pre ++ [(i, k)]) hr
    refine ⟨(i, k) :: E, by simp [hE], ⟨⟨o, ho, hs⟩, hsa⟩, ?_⟩
    simpa using hf

theorem specAll_get {a0 : Act} : ∀ (E pre : List (Nat × Kind)), SpecAll P ops M W a0 pre E → ∀ F i k G, E = F ++ (i, k) :: G →
    ∃ o, ops[i]? = some o ∧ Spec P ops M W (pre ++ F) (fun x => frame ops (fun _ => true) x (pre ++ F) a0) i o k
  | [], _, _, F, i, k, G, h => by simp at h
  | (j, l) :: E, pre, h, [], i, k, G, e => by
    simp only [List.nil_append, List.cons.injEq, Prod.mk.injEq] at e
    obtain ⟨⟨rfl, rfl⟩, rfl⟩ := e
    simpa using h.1
  | (j, l) :: E, pre, h, f :: F, i, k, G, e => by
    simp only [List.cons_append, List.cons.injEq] at e
    obtain ⟨rfl, rfl⟩ := e
    have := specAll_get (F ++ (i, k) :: G) (pre ++ [(j, l)]) h.2 F i k G rfl
    simpa using this

/-! ### Slots -/

theorem put_size (a : Act) (d : Option Tmp) (v : Value) : (a.put d v).tmps.size = a.tmps.size := by cases d <;> simp [Act.put]
theorem put_defers (a : Act) (d : Option Tmp) (v : Value) : (a.put d v).defers = a.defers := by cases d <;> simp [Act.put]
theorem put_slot_ne (a : Act) (d : Option Tmp) (v : Value) (t : Nat) (h : d ≠ some t) : (a.put d v).tmps[t]? = a.tmps[t]? := by
  cases d with
  | none => rfl
  | some e => exact Array.getElem?_setIfInBounds_ne (fun h' => h (by rw [h']))
theorem put_slot_congr (a b : Act) (d : Option Tmp) (v : Value) (t : Nat) (hs : a.tmps.size = b.tmps.size) (h : a.tmps[t]? = b.tmps[t]?) : (a.put d v).tmps[t]? = (b.put d v).tmps[t]? := by
  cases d with
  | none => exact h
  | some e =>
    by_cases he : e = t
    · subst he; simp [Act.put, Array.getElem?_setIfInBounds, hs]
    · rw [put_slot_ne _ _ _ _ (by simp [he]), put_slot_ne _ _ _ _ (by simp [he])]; exact h

theorem frame_size (D : Nat → Bool) (x : Vals) : ∀ (E : List (Nat × Kind)) (a : Act), (frame ops D x E a).tmps.size = a.tmps.size
  | [], _ => rfl
  | (i, k) :: E, a => by
    rw [frame, frame_size D x E]
    split
    · exact put_size _ _ _
    · rfl
theorem frame_defers (D : Nat → Bool) (x : Vals) : ∀ (E : List (Nat × Kind)) (a : Act), (frame ops D x E a).defers = a.defers
  | [], _ => rfl
  | (i, k) :: E, a => by
    rw [frame, frame_defers D x E]
    split
    · exact put_defers _ _ _
    · rfl

/-- A slot that nobody of the list writes. -/
theorem frame_slot_none (D : Nat → Bool) (x : Vals) (t : Nat) : ∀ (E : List (Nat × Kind)) (a : Act), (∀ p ∈ E, D p.1 = true → dstOf ops p.1 ≠ some t) → (frame ops D x E a).tmps[t]? = a.tmps[t]?
  | [], _, _ => rfl
  | (i, k) :: E, a, h => by
    rw [frame, frame_slot_none D x t E _ (fun p hp => h p (List.mem_cons_of_mem _ hp))]
    split
    · rename_i hD; exact put_slot_ne _ _ _ _ (h (i, k) (by simp) hD)
    · rfl

/-- A slot of two frames, of which the same writers have come up with the same values. -/
theorem frame_slot_congr (D D' : Nat → Bool) (x x' : Vals) (t : Nat) : ∀ (E : List (Nat × Kind)) (a b : Act), a.tmps.size = b.tmps.size → a.tmps[t]? = b.tmps[t]? →
    (∀ p ∈ E, dstOf ops p.1 = some t → D p.1 = D' p.1 ∧ (D p.1 = true → p.2.val p.1 x = p.2.val p.1 x')) → (frame ops D x E a).tmps[t]? = (frame ops D' x' E b).tmps[t]?
  | [], _, _, _, h, _ => h
  | (i, k) :: E, a, b, hs, h, hE => by
    simp only [frame]
    refine frame_slot_congr D D' x x' t E _ _ ?_ ?_ (fun p hp => hE p (List.mem_cons_of_mem _ hp))
    · split <;> split <;> simp [put_size, hs]
    · by_cases hd : dstOf ops i = some t
      · obtain ⟨h1, h2⟩ := hE (i, k) (by simp) hd
        rw [← h1]
        split
        · rename_i hD; rw [h2 hD]; exact put_slot_congr _ _ _ _ _ hs h
        · exact h
      · have e1 : ∀ (c : Act) (v : Value), (c.put (dstOf ops i) v).tmps[t]? = c.tmps[t]? := fun c v => put_slot_ne _ _ _ _ hd
        split <;> split <;> simp [e1, h]

/-! ### The checks that the kernel reckons -/

/-- M is what each operation waits for. -/
def certB (ops : Array Oper) (M : Array Nat) : Bool :=
  (List.range ops.size).all fun i => match ops[i]? with
    | none => true
    | some o => o.after.all (fun e => !Region.binds .any e || decide (e.on < i)) && M.getD i 0 == o.after.foldl (fun s e => if Region.binds .any e then s ||| 2 ^ e.on ||| M.getD e.on 0 else s) 0

/-- The slots that an operation names. -/
def names (ops : Array Oper) (o : Oper) : List Tmp := o.dst.toList ++ o.looksAt ops

def flowB (ops : Array Oper) (M : Array Nat) (listed : Array Bool) (H : List Nat) : Bool :=
  Region.noSelect ops && certB ops M && decide (listed.size = ops.size) && decide (H.Nodup) &&
  (H.all fun i => decide (i < ops.size) && !listed.getD i true) &&
  ((List.range ops.size).all fun i => match ops[i]? with
    | none => true
    | some o => o.after.all fun e => !Region.binds .any e || (if listed.getD i true then listed.getD e.on false else !(H.contains i) || listed.getD e.on false || H.contains e.on)) &&
  ((List.range ops.size).all fun j => listed.getD j true || H.contains j || H.all fun i => isAnc M j i) &&
  (H.all fun i => match ops[i]? with
    | none => true
    | some o => (names ops o).all fun t => H.all fun j => j == i || dstOf ops j != some t || (if decide (H.idxOf j < H.idxOf i) then isAnc M i j else isAnc M j i))

theorem foldl_or_bit (f : Edge → Nat) (j : Nat) : ∀ (l : List Edge) (s : Nat), (l.foldl (fun s e => if Region.binds .any e then s ||| f e else s) s).testBit j = true →
    s.testBit j = true ∨ ∃ e ∈ l, Region.binds .any e = true ∧ (f e).testBit j = true
  | [], _, h => Or.inl h
  | e :: l, s, h => by
    rcases foldl_or_bit f j l _ h with h1 | ⟨e', he, hb, hx⟩
    · dsimp only at h1
      split at h1
      · rename_i hb
        rw [Nat.testBit_or, Bool.or_eq_true] at h1
        rcases h1 with h1 | h1
        · exact Or.inl h1
        · exact Or.inr ⟨e, by simp, hb, h1⟩
      · exact Or.inl h1
    · exact Or.inr ⟨e', by simp [he], hb, hx⟩

theorem certB_spec {ops : Array Oper} {M : Array Nat} (h : certB ops M = true) {i : Nat} {o : Oper} (ho : ops[i]? = some o) :
    (∀ e ∈ o.after, Region.binds .any e = true → e.on < i) ∧ ∀ j, isAnc M i j = true → ∃ e ∈ o.after, Region.binds .any e = true ∧ (e.on = j ∨ isAnc M e.on j = true) := by
  unfold certB at h
  rw [List.all_eq_true] at h
  have h1 := h i (List.mem_range.2 (Array.getElem?_eq_some_iff.1 ho).1)
  simp only [ho, Bool.and_eq_true, beq_iff_eq, Array.all_eq_true_iff_forall_mem, Bool.or_eq_true, decide_eq_true_eq, Bool.not_eq_true'] at h1
  refine ⟨fun e he hb => (h1.1 e he).resolve_left (by simp [hb]), fun j hj => ?_⟩
  unfold isAnc at hj
  rw [h1.2, ← Array.foldl_toList] at hj
  have hj' : (o.after.toList.foldl (fun s e => if Region.binds .any e then s ||| (2 ^ e.on ||| M.getD e.on 0) else s) 0).testBit j = true := by
    simpa only [Nat.or_assoc] using hj
  rcases foldl_or_bit (fun e => 2 ^ e.on ||| M.getD e.on 0) j o.after.toList 0 hj' with h2 | ⟨e, he, hb, hx⟩
  · simp at h2
  · refine ⟨e, by simpa using he, hb, ?_⟩
    rw [Nat.testBit_or, Bool.or_eq_true, Nat.testBit_two_pow] at hx
    rcases hx with hx | hx
    · exact Or.inl (by simpa using hx)
    · exact Or.inr hx

/-- In a set that is closed, all that an operation waits for is there, if its own edges are. -/
theorem anc_listed {ops : Array Oper} {M : Array Nat} (hc : certB ops M = true) {L : Array Bool}
    (hL : ∀ j o, L.getD j false = true → ops[j]? = some o → ∀ e ∈ o.after, Region.binds .any e = true → L.getD e.on false = true) :
    ∀ (i : Nat) (o : Oper), ops[i]? = some o → (∀ e ∈ o.after, Region.binds .any e = true → L.getD e.on false = true) → ∀ j, isAnc M i j = true → L.getD j false = true := by
  intro i
  induction i using Nat.strongRecOn with
  | _ i ih =>
    intro o ho he j hj
    obtain ⟨hlt, hanc⟩ := certB_spec hc ho
    obtain ⟨e, hem, hb, h⟩ := hanc j hj
    rcases h with h | h
    · exact h ▸ he e hem hb
    · have hlt' := hlt e hem hb
      have hsz := (Array.getElem?_eq_some_iff.1 ho).1
      obtain ⟨o', ho'⟩ : ∃ o', ops[e.on]? = some o' := ⟨ops[e.on]'(by omega), Array.getElem?_eq_getElem _⟩
      exact ih e.on hlt' o' ho' (hL e.on o' (he e hem hb) ho') j h

theorem count_done (D : Nat → Bool) (i : Nat) (hD : D i = false) : ∀ H : List Nat, H.Nodup → i ∈ H → H.countP (fun j => !D j) = H.countP (fun j => !(D j || j == i)) + 1
  | [], _, h => by simp at h
  | h :: t, hn, hm => by
    rw [List.nodup_cons] at hn
    by_cases hh : h = i
    · subst hh
      have e : t.countP (fun j => !D j) = t.countP (fun j => !(D j || j == h)) := by
        refine List.countP_congr fun j hj => ?_
        have hne : j ≠ h := fun e => hn.1 (e ▸ hj)
        simp [hne]
      simp [hD, e]
    · have hm' : i ∈ t := by
        rcases List.mem_cons.1 hm with h' | h'
        · exact absurd h'.symm hh
        · exact h'
      have := count_done D i hD t hn.2 hm'
      simp only [List.countP_cons, this]
      have e : (h == i) = false := by simpa using hh
      simp only [e, Bool.or_false]
      omega

theorem getD_agree {L : Array Bool} {j : Nat} (h : j < L.size) : L.getD j true = L.getD j false := by simp [h]

theorem foldl_set_getD : ∀ (H : List Nat) (l : Array Bool) (j : Nat), (H.foldl (fun l i => l.setIfInBounds i true) l).getD j true = (l.getD j true || H.contains j)
  | [], _, _ => by simp
  | h :: t, l, j => by
    rw [List.foldl_cons, foldl_set_getD t]
    by_cases hj : h = j
    · subst hj
      have e : (l.setIfInBounds h true).getD h true = true := by
        by_cases hs : h < l.size <;> simp [hs]
      simp [e]
    · have e : (l.setIfInBounds h true).getD j true = l.getD j true := by simp [Array.getElem?_setIfInBounds_ne hj]
      have e2 : ¬ j = h := fun e => hj e.symm
      rw [e]
      simp [e2]
theorem foldl_set_size : ∀ (H : List Nat) (l : Array Bool), (H.foldl (fun l i => l.setIfInBounds i true) l).size = l.size
  | [], _ => rfl
  | h :: t, l => by rw [List.foldl_cons, foldl_set_size t]; simp

theorem array_eq_of_getD {l l' : Array Bool} (hs : l.size = l'.size) (h : ∀ j, l.getD j true = l'.getD j true) : l = l' := by
  refine Array.ext hs fun i hi hi' => ?_
  have := h i
  simpa [hi, hi'] using this

theorem frame_all {ops : Array Oper} {D : Nat → Bool} {x : Vals} : ∀ (E : List (Nat × Kind)) (a : Act), (∀ p ∈ E, D p.1 = true) → frame ops D x E a = frame ops (fun _ => true) x E a
  | [], _, _ => rfl
  | (i, k) :: E, a, h => by
    simp only [frame, h (i, k) (by simp), if_true]
    exact frame_all E _ fun p hp => h p (List.mem_cons_of_mem _ hp)

theorem frame_none {ops : Array Oper} {x : Vals} : ∀ (E : List (Nat × Kind)) (a : Act), frame ops (fun _ => false) x E a = a
  | [], _ => rfl
  | (i, k) :: E, a => by simp [frame, frame_none E]

theorem act_ext {a b : Act} (hs : a.tmps.size = b.tmps.size) (h : ∀ t : Nat, a.tmps[t]? = b.tmps[t]?) (hd : a.defers = b.defers) : a = b := by
  cases a; cases b
  simp only at hs h hd
  subst hd
  congr 1
  exact Array.ext_getElem? h

structure Checks (ops : Array Oper) (M : Array Nat) (listed : Array Bool) (H : List Nat) : Prop where
  sel : Region.noSelect ops = true
  cert : certB ops M = true
  size : listed.size = ops.size
  nodup : H.Nodup
  fresh : ∀ i ∈ H, i < ops.size ∧ listed.getD i true = false
  old : ∀ i o, ops[i]? = some o → listed.getD i true = true → ∀ e ∈ o.after, Region.binds .any e = true → listed.getD e.on false = true
  within : ∀ i o, ops[i]? = some o → i ∈ H → listed.getD i true = false → ∀ e ∈ o.after, Region.binds .any e = true → listed.getD e.on false = true ∨ e.on ∈ H
  rest : ∀ j, j < ops.size → listed.getD j true = false → j ∉ H → ∀ i ∈ H, isAnc M j i = true
  slots : ∀ i o, ops[i]? = some o → i ∈ H → ∀ t ∈ names ops o, ∀ j ∈ H, j ≠ i → dstOf ops j = some t → if H.idxOf j < H.idxOf i then isAnc M i j = true else isAnc M j i = true

theorem checks_of {ops : Array Oper} {M : Array Nat} {listed : Array Bool} {H : List Nat} (h : flowB ops M listed H = true) : Checks ops M listed H := by
  unfold flowB at h
  simp only [Bool.and_eq_true] at h
  obtain ⟨⟨⟨⟨⟨⟨⟨h1, h2⟩, h3⟩, h4⟩, h5⟩, h6⟩, h7⟩, h8⟩ := h
  rw [List.all_eq_true] at h5 h6 h7 h8
  have hr : ∀ {i : Nat} {o : Oper}, ops[i]? = some o → i ∈ List.range ops.size := fun ho => List.mem_range.2 (Array.getElem?_eq_some_iff.1 ho).1
  refine ⟨h1, h2, by simpa using h3, by simpa using h4, fun i hi => by simpa using h5 i hi, ?_, ?_, ?_, ?_⟩
  · intro i o ho hl e he hb
    have := h6 i (hr ho)
    simp only [ho, Array.all_eq_true_iff_forall_mem] at this
    have := this e he
    simpa only [hb, hl, Bool.not_true, Bool.false_or, if_true] using this
  · intro i o ho hH hl e he hb
    have := h6 i (hr ho)
    simp only [ho, Array.all_eq_true_iff_forall_mem] at this
    have := this e he
    have hc : H.contains i = true := by simpa using hH
    simp only [hb, hl, hc, Bool.not_true, Bool.false_or, if_false, Bool.false_eq_true, Bool.or_eq_true] at this
    simpa using this
  · intro j hj hl hH i hi
    have := h7 j (List.mem_range.2 hj)
    have hc : H.contains j = false := by simpa using hH
    simp only [hl, hc, Bool.false_or, List.all_eq_true] at this
    exact this i hi
  · intro i o ho hi t ht j hj hne hd
    have := h8 i hi
    simp only [ho, List.all_eq_true] at this
    have := this t ht j hj
    have e1 : (j == i) = false := by simpa using hne
    simp only [e1, hd, bne_self_eq_false, Bool.false_or] at this
    split
    · rename_i hlt; simpa [hlt] using this
    · rename_i hlt; simpa [hlt] using this


/-- How far the walk of the list has come, in whatever order. -/
structure Inv (P : Program) (ops : Array Oper) (listed L : Array Bool) (H : List Nat) (E : List (Nat × Kind)) (M : Array Nat) (W : World) (a0 : Act) (D : Nat → Bool) (x : Vals) (a : Act) (w : World) : Prop where
  size : L.size = ops.size
  mem : ∀ j, L.getD j true = (listed.getD j true || D j)
  dH : ∀ j, D j = true → j ∈ H
  closed : ∀ j o, D j = true → ops[j]? = some o → ∀ e ∈ o.after, Region.binds .any e = true → L.getD e.on false = true
  grow : Grow W w
  fr : a = frame ops D x E a0
  facts : ∀ j T, (j, Kind.new T) ∈ E → D j = true → T (mask M j x) w
  bound : ∀ j, D j = true → W.heap.size ≤ (x j).lo ∧ (x j).lo ≤ (x j).hi ∧ (x j).hi ≤ w.heap.size
  apart : ∀ j k, D j = true → D k = true → j ≠ k → (x j).hi ≤ (x k).lo ∨ (x k).hi ≤ (x j).lo

theorem flow_any {P : Program} {ops : Array Oper} {listed : Array Bool} {H : List Nat} {E : List (Nat × Kind)} {M : Array Nat} {W : World} {a0 : Act} {Q : Exit → Act → World → Prop} {g : Nat}
    (C : Checks ops M listed H) (hE : E.map (·.1) = H) (hS : SpecAll P ops M W a0 [] E)
    (hF : ∀ x w, Grow W w → AllFacts M E x w → Apart E x W w → wpAny P .any ops Q g (H.foldl (fun l i => l.setIfInBounds i true) listed) (frame ops (fun _ => true) x E a0) w) :
    ∀ (m : Nat) (L : Array Bool) (D : Nat → Bool) (x : Vals) (a : Act) (w : World), Inv P ops listed L H E M W a0 D x a w → H.countP (fun j => !D j) = m → wpAny P .any ops Q (m + g) L a w := by
  have hgetE : ∀ i, i ∈ H → ∃ F k G, E = F ++ (i, k) :: G := fun i hi => by
    rw [← hE] at hi
    obtain ⟨⟨j, k⟩, hp, rfl⟩ := List.mem_map.1 hi
    obtain ⟨F, G, h⟩ := List.append_of_mem hp
    exact ⟨F, k, G, h⟩
  have huniq : ∀ i k k', (i, k) ∈ E → (i, k') ∈ E → k = k' := by
    intro i k k' h1 h2
    obtain ⟨F, G, h⟩ := List.append_of_mem h1
    have hn := C.nodup
    rw [← hE, h] at hn
    rw [h] at h2
    simp only [List.map_append, List.map_cons, List.nodup_append, List.nodup_cons, List.mem_map, List.mem_cons] at hn
    rcases List.mem_append.1 h2 with h3 | h3
    · exact absurd rfl (hn.2.2 i ⟨(i, k'), h3, rfl⟩ i (Or.inl rfl))
    · rcases List.mem_cons.1 h3 with h4 | h4
      · exact (Prod.mk.inj h4).2.symm
      · exact absurd ⟨(i, k'), h4, rfl⟩ hn.2.1.1
  have hmono : ∀ j T, (j, Kind.new T) ∈ E → ∀ x w w', Grow w w' → T x w → T x w' := fun j T hj => by
    obtain ⟨F, G, h⟩ := List.append_of_mem hj
    obtain ⟨o, _, hs⟩ := specAll_get P ops M W E [] hS F j _ G h
    exact hs.1
  intro m
  induction m with
  | zero =>
    intro L D x a w I hc
    have hall : ∀ j ∈ H, D j = true := fun j hj => by
      have := List.countP_eq_zero.1 hc j hj
      simpa using this
    have hL : L = H.foldl (fun l i => l.setIfInBounds i true) listed := by
      refine array_eq_of_getD (by rw [I.size, foldl_set_size, C.size]) fun j => ?_
      rw [I.mem, foldl_set_getD]
      congr 1
      by_cases hj : j ∈ H
      · simp [hj, hall j hj]
      · have : D j = false := by
          cases h : D j
          · rfl
          · exact absurd (I.dH j h) hj
        simp [hj, this]
    have hmemE : ∀ p ∈ E, p.1 ∈ H := fun p hp => by rw [← hE]; exact List.mem_map.2 ⟨p, hp, rfl⟩
    rw [Nat.zero_add, hL, I.fr, frame_all E a0 (fun p hp => hall _ (hmemE p hp))]
    refine hF x w I.grow (fun j T hj => I.facts j T hj (hall j (hmemE _ hj))) ⟨fun j T hj => I.bound j (hall j (hmemE _ hj)), fun j T k U hj hk hne => I.apart j k (hall j (hmemE _ hj)) (hall k (hmemE _ hk)) hne⟩
  | succ m ih =>
    intro L D x a w I hc
    have hLD : ∀ j, D j = true → L.getD j false = true := fun j hj => by
      have h1 : j < L.size := by rw [I.size]; exact (C.fresh j (I.dH j hj)).1
      rw [← getD_agree h1, I.mem, hj, Bool.or_true]
    have hcl : ∀ j o, L.getD j false = true → ops[j]? = some o → ∀ e ∈ o.after, Region.binds .any e = true → L.getD e.on false = true := by
      intro j o hj ho e he hb
      have hjs := (Array.getElem?_eq_some_iff.1 ho).1
      have h1 : L.getD j true = true := by rw [getD_agree (by rw [I.size]; exact hjs)]; exact hj
      rw [I.mem, Bool.or_eq_true] at h1
      rcases h1 with h1 | h1
      · have h2 := C.old j o ho h1 e he hb
        have hes : e.on < ops.size := by have := (certB_spec C.cert ho).1 e he hb; omega
        have h3 : listed.getD e.on true = true := by rw [getD_agree (by rw [C.size]; exact hes)]; exact h2
        rw [← getD_agree (by rw [I.size]; exact hes), I.mem, h3, Bool.true_or]
      · exact I.closed j o h1 ho e he hb
    have hex : ∃ h0, h0 ∈ H ∧ D h0 = false := by
      have : 0 < H.countP (fun j => !D j) := by omega
      obtain ⟨h0, h1, h2⟩ := List.countP_pos_iff.1 this
      exact ⟨h0, h1, by simpa using h2⟩
    have hnotL : ∀ j, j ∈ H → D j = false → L.getD j true = false := fun j hj hd => by rw [I.mem, (C.fresh j hj).2, hd, Bool.false_or]
    have hready : ∃ i, i ∈ Region.ready .any ops L := by
      have key : ∀ n, ∀ h0, h0 ≤ n → h0 ∈ H → D h0 = false → ∃ i, i ∈ Region.ready .any ops L := by
        intro n
        induction n with
        | zero =>
          intro h0 hle hH hd
          obtain ⟨o, ho⟩ : ∃ o, ops[h0]? = some o := ⟨ops[h0]'(C.fresh h0 hH).1, Array.getElem?_eq_getElem _⟩
          refine ⟨h0, mem_ready.2 ⟨hnotL h0 hH hd, o, ho, fun e he hb => ?_⟩⟩
          have := (certB_spec C.cert ho).1 e he hb
          omega
        | succ n ihn =>
          intro h0 hle hH hd
          obtain ⟨o, ho⟩ : ∃ o, ops[h0]? = some o := ⟨ops[h0]'(C.fresh h0 hH).1, Array.getElem?_eq_getElem _⟩
          by_cases hsm : ∃ e ∈ o.after, Region.binds .any e = true ∧ e.on ∈ H ∧ D e.on = false
          · obtain ⟨e, he, hb, heH, hed⟩ := hsm
            have := (certB_spec C.cert ho).1 e he hb
            exact ihn e.on (by omega) heH hed
          · refine ⟨h0, mem_ready.2 ⟨hnotL h0 hH hd, o, ho, fun e he hb => ?_⟩⟩
            have hlt := (certB_spec C.cert ho).1 e he hb
            have hes : e.on < ops.size := by have := (C.fresh h0 hH).1; omega
            rcases C.within h0 o ho hH (C.fresh h0 hH).2 e he hb with h1 | h1
            · have h3 : listed.getD e.on true = true := by rw [getD_agree (by rw [C.size]; exact hes)]; exact h1
              rw [← getD_agree (by rw [I.size]; exact hes), I.mem, h3, Bool.true_or]
            · have hde : D e.on = true := by
                cases hde : D e.on
                · exact absurd ⟨e, he, hb, h1, hde⟩ hsm
                · rfl
              exact hLD _ hde
      obtain ⟨h0, h1, h2⟩ := hex
      exact key h0 h0 (Nat.le_refl _) h1 h2
    rw [show m + 1 + g = (m + g) + 1 by omega]
    refine ⟨fun h0 => (by obtain ⟨i, hi⟩ := hready; rw [h0] at hi; cases hi), fun i hi => ?_⟩
    obtain ⟨hun, o, ho, hedge⟩ := mem_ready.1 hi
    have his := (Array.getElem?_eq_some_iff.1 ho).1
    have hanc := anc_listed C.cert hcl i o ho hedge
    have hiL : listed.getD i true = false ∧ D i = false := by
      rw [I.mem, Bool.or_eq_false_iff] at hun; exact hun
    have hiH : i ∈ H := by
      rcases Classical.em (i ∈ H) with h | h
      · exact h
      · obtain ⟨h0, h1, h2⟩ := hex
        have h3 := hanc h0 (C.rest i his hiL.1 h h0 h1)
        have h4 := hnotL h0 h1 h2
        rw [getD_agree (by rw [I.size]; exact (C.fresh h0 h1).1), h3] at h4
        cases h4
    obtain ⟨F, k, G, hEq⟩ := hgetE i hiH
    obtain ⟨o', ho', hspec⟩ := specAll_get P ops M W E [] hS F i k G hEq
    rw [ho] at ho'
    cases ho'
    simp only [List.nil_append] at hspec
    have hHeq : H = F.map (·.1) ++ i :: G.map (·.1) := by rw [← hE, hEq]; simp
    have hnd := C.nodup
    rw [hHeq, List.nodup_append] at hnd
    have hiF : i ∉ F.map (·.1) := fun h => hnd.2.2 i h i (by simp) rfl
    have hiG : i ∉ G.map (·.1) := (List.nodup_cons.1 hnd.2.1).1
    have hidx : H.idxOf i = (F.map (·.1)).length := by rw [hHeq, List.idxOf_append, if_neg hiF]; simp
    have hFin : ∀ p ∈ F, p.1 ∈ H := fun p hp => by rw [hHeq]; exact List.mem_append_left _ (List.mem_map.2 ⟨p, hp, rfl⟩)
    have hGin : ∀ p ∈ G, p.1 ∈ H := fun p hp => by rw [hHeq]; exact List.mem_append_right _ (List.mem_cons_of_mem _ (List.mem_map.2 ⟨p, hp, rfl⟩))
    have hF1 : ∀ p ∈ F, H.idxOf p.1 < H.idxOf i := fun p hp => by
      have hm : p.1 ∈ F.map (·.1) := List.mem_map.2 ⟨p, hp, rfl⟩
      rw [hidx, hHeq, List.idxOf_append, if_pos hm]
      exact List.idxOf_lt_length_of_mem hm
    have hG1 : ∀ p ∈ G, ¬ H.idxOf p.1 < H.idxOf i := fun p hp => by
      have hm : p.1 ∈ G.map (·.1) := List.mem_map.2 ⟨p, hp, rfl⟩
      have hnF : p.1 ∉ F.map (·.1) := fun h => hnd.2.2 p.1 h p.1 (List.mem_cons_of_mem _ hm) rfl
      rw [hidx, hHeq, List.idxOf_append, if_neg hnF]
      omega
    -- nobody behind i that has come up writes a slot that i names
    have hnone : ∀ t ∈ names ops o, ∀ p ∈ G, D p.1 = true → dstOf ops p.1 ≠ some t := by
      intro t ht p hp hD hd
      have hne : p.1 ≠ i := fun e => by rw [e, hiL.2] at hD; cases hD
      have h1 := C.slots i o ho hiH t ht p.1 (hGin p hp) hne hd
      rw [if_neg (hG1 p hp)] at h1
      obtain ⟨o2, ho2⟩ : ∃ o2, ops[p.1]? = some o2 := ⟨ops[p.1]'(C.fresh _ (hGin p hp)).1, Array.getElem?_eq_getElem _⟩
      have h2 := anc_listed C.cert hcl p.1 o2 ho2 (I.closed p.1 o2 hD ho2) i h1
      rw [← getD_agree (by rw [I.size]; exact his), hun] at h2
      cases h2
    have hslot : ∀ t ∈ o.looksAt ops, a.tmps[t]? = (frame ops (fun _ => true) x F a0).tmps[t]? := by
      intro t ht
      have htn : t ∈ names ops o := List.mem_append_right _ ht
      rw [I.fr, hEq, frame_append, frame_slot_none ops D x t ((i, k) :: G)]
      · refine frame_slot_congr ops D _ x x t F a0 a0 rfl rfl fun p hp hd => ?_
        have hne : p.1 ≠ i := fun e => hiF (e ▸ List.mem_map.2 ⟨p, hp, rfl⟩)
        have h1 := C.slots i o ho hiH t htn p.1 (hFin p hp) hne hd
        rw [if_pos (hF1 p hp)] at h1
        have h2 := hanc p.1 h1
        have hps := (C.fresh _ (hFin p hp)).1
        rw [← getD_agree (by rw [I.size]; exact hps), I.mem, (C.fresh _ (hFin p hp)).2, Bool.false_or] at h2
        exact ⟨h2, fun _ => rfl⟩
      · intro p hp hD
        rcases List.mem_cons.1 hp with rfl | hp
        · exact absurd hD (by rw [hiL.2]; simp)
        · exact hnone t htn p hp hD
    have hexec : execOp a.eval o = execOp (frame ops (fun _ => true) x F a0).eval o := by
      refine execOp_congr o (fun cs b => Region.noSelect_spec C.sel i o cs b ho) fun y hy => ?_
      cases y with
      | tmp t =>
        have := hslot t (List.mem_append_left _ (List.mem_filterMap.2 ⟨.tmp t, by simpa using hy, rfl⟩))
        simp only [Act.eval, Array.getD_eq_getD_getElem?, this]
      | _ => rfl
    have hwanted : Region.wanted o (yielded ops a.tmps) = Region.wanted o (yielded ops (frame ops (fun _ => true) x F a0).tmps) := by
      unfold Region.wanted
      cases hg : o.guard with
      | none => rfl
      | some gw =>
        obtain ⟨j, want⟩ := gw
        have hy : yielded ops a.tmps j = yielded ops (frame ops (fun _ => true) x F a0).tmps j := by
          unfold yielded
          cases ht : (ops[j]?).bind (·.dst) with
          | none => rfl
          | some t =>
            have := hslot t (by simp [Oper.looksAt, hg, ht])
            simp only [Option.bind_some, this]
        simp only [hy]
    have hfacts : Facts M F i x w := by
      intro j T hj hij
      have hjE : (j, Kind.new T) ∈ E := by rw [hEq]; exact List.mem_append_left _ hj
      refine I.facts j T hjE ?_
      have h2 := hanc j hij
      have hjH := hFin _ hj
      rw [← getD_agree (by rw [I.size]; exact (C.fresh _ hjH).1), I.mem, (C.fresh _ hjH).2, Bool.false_or] at h2
      exact h2
    -- behind i
    have hgo : ∀ (b : Born) (w' : World), Grow w w' → b.lo = w.heap.size → b.hi = w'.heap.size → k.val i (upd x i b) = b.val →
        (∀ T, k = Kind.new T → T (mask M i (upd x i b)) w') → wpAny P .any ops Q (m + g) (L.setIfInBounds i true) (a.put o.dst b.val) w' := by
      intro b w' hgrow hlo hhi hval hT
      have hxne : ∀ j, j ≠ i → upd x i b j = x j := fun j hj => by simp [upd, hj]
      have hxi : upd x i b i = b := by simp [upd]
      have hDi : ∀ j, (D j || j == i) = true → j = i ∨ (j ≠ i ∧ D j = true) := fun j hj => by
        by_cases h : j = i
        · exact Or.inl h
        · refine Or.inr ⟨h, ?_⟩
          simpa [h] using hj
      have hmask : ∀ j, D j = true → mask M j (upd x i b) = mask M j x := by
        intro j hD
        funext q
        simp only [mask]
        by_cases hq : q = i
        · subst hq
          have hjne : ¬ q = j := fun e => by rw [e] at hiL; rw [hiL.2] at hD; cases hD
          have hna : ¬ isAnc M j q = true := fun h1 => by
            obtain ⟨o2, ho2⟩ : ∃ o2, ops[j]? = some o2 := ⟨ops[j]'(C.fresh _ (I.dH j hD)).1, Array.getElem?_eq_getElem _⟩
            have h2 := anc_listed C.cert hcl j o2 ho2 (I.closed j o2 hD ho2) q h1
            rw [← getD_agree (by rw [I.size]; exact his), hun] at h2
            cases h2
          rw [if_neg (by rintro (h | h); exact hjne h; exact hna h), if_neg (by rintro (h | h); exact hjne h; exact hna h)]
        · rw [hxne q hq]
      refine ih (L.setIfInBounds i true) (fun j => D j || j == i) (upd x i b) _ w' ?_ (by have := count_done D i hiL.2 H C.nodup hiH; omega)
      refine ⟨by simp [I.size], fun j => ?_, fun j hj => ?_, fun j o2 hj ho2 e he hb => ?_, I.grow.trans hgrow, ?_, fun j T hjE hj => ?_, fun j hj => ?_, fun j q hj hq hne => ?_⟩
      · by_cases hji : i = j
        · subst hji
          have : (L.setIfInBounds i true).getD i true = true := by
            by_cases hs : i < L.size <;> simp [hs]
          simp [this]
        · have e2 : (j == i) = false := by simpa using fun e => hji e.symm
          have : (L.setIfInBounds i true).getD j true = L.getD j true := getD_set_ne true hji
          rw [this, I.mem, e2, Bool.or_false]
      · rcases hDi j hj with rfl | ⟨_, h⟩
        · exact hiH
        · exact I.dH j h
      · refine getD_set_true ?_
        rcases hDi j hj with rfl | ⟨_, h⟩
        · rw [ho] at ho2; cases ho2; exact hedge e he hb
        · exact I.closed j o2 h ho2 e he hb
      · -- the frames
        refine act_ext (by rw [put_size, I.fr, frame_size, frame_size]) (fun t => ?_) (by rw [put_defers, I.fr, frame_defers, frame_defers])
        have hdst : dstOf ops i = o.dst := by simp [dstOf, ho]
        by_cases hd : o.dst = some t
        · have htn : t ∈ names ops o := List.mem_append_left _ (by simp [hd])
          rw [hEq, frame_append, frame, frame_slot_none ops _ _ t G]
          · rw [if_pos (by simp), hdst, hd, hval]
            simp only [Act.put, Array.getElem?_setIfInBounds_self, I.fr, frame_size]
          · intro p hp hD
            rcases hDi p.1 hD with h | ⟨_, h⟩
            · exact absurd (h ▸ List.mem_map.2 ⟨p, hp, rfl⟩) hiG
            · exact hnone t htn p hp h
        · rw [put_slot_ne _ _ _ _ hd, I.fr]
          refine frame_slot_congr ops _ _ _ _ t E a0 a0 rfl rfl fun p hp hpd => ?_
          have hne : p.1 ≠ i := fun e => hd (by rw [← hdst, ← e]; exact hpd)
          have e2 : (p.1 == i) = false := by simpa using hne
          refine ⟨by simp [e2], fun _ => ?_⟩
          cases hk : p.2 <;> simp [Kind.val, hxne _ hne]
      · rcases hDi j hj with rfl | ⟨hji, h⟩
        · have hkE : (j, k) ∈ E := by rw [hEq]; simp
          exact hT T (huniq j _ _ hkE hjE)
        · rw [hmask j h]
          exact hmono j T hjE _ _ _ hgrow (I.facts j T hjE h)
      · rcases hDi j hj with rfl | ⟨hji, h⟩
        · rw [hxi, hlo, hhi]; exact ⟨I.grow.size, hgrow.size, Nat.le_refl _⟩
        · rw [hxne j hji]
          have := I.bound j h
          exact ⟨this.1, this.2.1, Nat.le_trans this.2.2 hgrow.size⟩
      · rcases hDi j hj with rfl | ⟨hji, h⟩
        · rcases hDi q hq with rfl | ⟨hqi, h'⟩
          · exact absurd rfl hne
          · rw [hxi, hxne q hqi, hlo]; exact Or.inr (I.bound q h').2.2
        · rcases hDi q hq with rfl | ⟨hqi, h'⟩
          · rw [hxi, hxne j hji, hlo]; exact Or.inl (I.bound j h).2.2
          · rw [hxne j hji, hxne q hqi]; exact I.apart j q h h' hne
    unfold wpOp
    simp only [ho]
    cases k with
    | const v =>
      obtain ⟨hw1, hn⟩ := hspec x w I.grow hfacts
      rw [hwanted, if_pos hw1]
      refine Or.inl ?_
      have hn' : newAt P o a w (fun b _ => b.val = v) := by unfold newAt at *; rw [hexec]; exact hn
      refine wp_of_newAt P hn' fun v' w' hg hr => ?_
      dsimp only at hr
      exact hgo ⟨v', w.heap.size, w'.heap.size⟩ w' hg rfl rfl (by simpa [Kind.val] using hr.symm) (fun T h => by cases h)
    | new T =>
      obtain ⟨hw1, hn⟩ := hspec.2 x w I.grow hfacts
      rw [hwanted, if_pos hw1]
      refine Or.inl ?_
      have hn' : newAt P o a w (fun b w' => T (mask M i (upd x i b)) w') := by unfold newAt at *; rw [hexec]; exact hn
      refine wp_of_newAt P hn' fun v' w' hg hr => ?_
      exact hgo ⟨v', w.heap.size, w'.heap.size⟩ w' hg rfl rfl (by simp [Kind.val, upd]) (fun T' h => by cases h; exact hr)
    | skip =>
      have hw1 := hspec x w I.grow hfacts
      rw [hwanted, hw1, if_neg (by simp)]
      exact hgo ⟨undef, w.heap.size, w.heap.size⟩ w (Grow.refl w) rfl rfl rfl (fun T h => by cases h)

/-- **The list's operations in whatever order.** -/
theorem wpAny_flow {P : Program} {ops : Array Oper} {listed : Array Bool} {H : List Nat} {M : Array Nat} {W : World} {a0 : Act} {Q : Exit → Act → World → Prop} {g : Nat}
    (hB : flowB ops M listed H = true)
    (h : wpFlow P ops M W (fun E A => ∀ x w, Grow W w → AllFacts M E x w → Apart E x W w → wpAny P .any ops Q g (H.foldl (fun l i => l.setIfInBounds i true) listed) (A x) w) H [] (fun _ => a0)) :
    ∀ w, Grow W w → wpAny P .any ops Q (H.length + g) listed a0 w := by
  intro w hw
  have C := checks_of hB
  have h' : wpFlow P ops M W (fun E A => ∀ x w, Grow W w → AllFacts M E x w → Apart E x W w → wpAny P .any ops Q g (H.foldl (fun l i => l.setIfInBounds i true) listed) (A x) w) H [] (fun x => frame ops (fun _ => true) x [] a0) := h
  obtain ⟨E, hE, hS, hF⟩ := flow_specs P ops M W H [] h'
  refine flow_any C hE hS (fun x w h1 h2 h3 => by simpa using hF x w h1 (by simpa using h2) (by simpa using h3)) H.length listed (fun _ => false) (fun _ => ⟨undef, 0, 0⟩) a0 w ?_ (by simp)
  exact ⟨C.size, fun j => (by simp), fun j h => (by cases h), fun j o h => (by cases h), hw, (frame_none E a0).symm, fun j T _ h => (by cases h), fun j h => (by cases h), fun j k h => (by cases h)⟩


/-! ### For the walks -/

theorem mask_self {M : Array Nat} {i : Nat} {x : Vals} : mask M i x i = x i := by simp [mask]
theorem mask_anc {M : Array Nat} {i j : Nat} {x : Vals} (h : isAnc M i j = true) : mask M i x j = x j := by simp [mask, h]
theorem upd_self {x : Vals} {i : Nat} {b : Born} : upd x i b i = b := by simp [upd]
theorem upd_ne {x : Vals} {i j : Nat} {b : Born} (h : j ≠ i) : upd x i b j = x j := by simp [upd, h]

/-- The facts of the list, one by one. -/
def FactsOf (M : Array Nat) : List (Nat × Kind) → Vals → World → Prop
  | [], _, _ => True
  | (j, .new T) :: Ts, x, w => T (mask M j x) w ∧ FactsOf M Ts x w
  | (_, .const _) :: Ts, x, w => FactsOf M Ts x w
  | (_, .skip) :: Ts, x, w => FactsOf M Ts x w

theorem factsOf_all {M : Array Nat} {x : Vals} {w : World} : ∀ (Ts : List (Nat × Kind)), AllFacts M Ts x w → FactsOf M Ts x w
  | [], _ => trivial
  | (j, .new T) :: Ts, h => ⟨h j T (by simp), factsOf_all Ts fun k U hk => h k U (List.mem_cons_of_mem _ hk)⟩
  | (j, .const v) :: Ts, h => factsOf_all Ts fun k U hk => h k U (List.mem_cons_of_mem _ hk)
  | (j, .skip) :: Ts, h => factsOf_all Ts fun k U hk => h k U (List.mem_cons_of_mem _ hk)

/-- The same walk over the operations themselves. -/
def wpFlowL (P : Program) (ops : Array Oper) (M : Array Nat) (W : World) (Fin : List (Nat × Kind) → (Vals → Act) → Prop) : List Oper → Nat → List (Nat × Kind) → (Vals → Act) → Prop
  | [], _, Ts, A => Fin Ts A
  | o :: l, i, Ts, A => ∃ k, Spec P ops M W Ts A i o k ∧ wpFlowL P ops M W Fin l (i + 1) (Ts ++ [(i, k)]) (fun x => (A x).put o.dst (k.val i x))

theorem wpFlow_of_list {P : Program} {ops : Array Oper} {M : Array Nat} {W : World} {Fin : List (Nat × Kind) → (Vals → Act) → Prop} :
    ∀ (l : List Oper) (i : Nat) (Ts : List (Nat × Kind)) (A : Vals → Act), (∀ j, j < l.length → ops[i + j]? = l[j]?) → wpFlowL P ops M W Fin l i Ts A → wpFlow P ops M W Fin (List.range' i l.length) Ts A
  | [], _, _, _, _, h => h
  | o :: l, i, Ts, A, hl, ⟨k, hs, hr⟩ => by
    have h0 : ops[i]? = some o := by simpa using hl 0 (by simp)
    exact ⟨o, k, h0, hs, wpFlow_of_list l (i + 1) _ _ (fun j hj => by have := hl (j + 1) (by simpa using hj); simpa [Nat.add_assoc, Nat.add_comm 1 j] using this) hr⟩

section
variable {P : Program} {ops : Array Oper} {M : Array Nat} {W : World} {Fin : List (Nat × Kind) → (Vals → Act) → Prop} {i : Nat} {l : List Oper} {Ts : List (Nat × Kind)} {A : Vals → Act} {o : Oper}

/-- An operation that yields one value, whatever came before. -/
theorem flow_const {v : Value}
    (h : ∀ x w, Grow W w → Facts M Ts i x w → Region.wanted o (yielded ops (A x).tmps) = true ∧ newAt P o (A x) w (fun b _ => b.val = v))
    (k : wpFlowL P ops M W Fin l (i + 1) (Ts ++ [(i, .const v)]) (fun x => (A x).put o.dst v)) : wpFlowL P ops M W Fin (o :: l) i Ts A := ⟨.const v, h, k⟩

/-- An operation of whose value a fact is known. -/
theorem flow_new (T : Fact) (hm : ∀ x w w', Grow w w' → T x w → T x w')
    (h : ∀ x w, Grow W w → Facts M Ts i x w → Region.wanted o (yielded ops (A x).tmps) = true ∧ newAt P o (A x) w (fun b w' => T (mask M i (upd x i b)) w'))
    (k : wpFlowL P ops M W Fin l (i + 1) (Ts ++ [(i, .new T)]) (fun x => (A x).put o.dst (x i).val)) : wpFlowL P ops M W Fin (o :: l) i Ts A := ⟨.new T, ⟨hm, h⟩, k⟩

/-- An operation that isn't wanted. -/
theorem flow_skip (h : ∀ x, Region.wanted o (yielded ops (A x).tmps) = false)
    (k : wpFlowL P ops M W Fin l (i + 1) (Ts ++ [(i, .skip)]) (fun x => (A x).put o.dst undef)) : wpFlowL P ops M W Fin (o :: l) i Ts A := ⟨.skip, fun x _ _ _ => h x, k⟩

theorem flow_nil (h : Fin Ts A) : wpFlowL P ops M W Fin [] i Ts A := h
end

/-- What is asked behind the walk. -/
def FlowEnd (M : Array Nat) (w : World) (K : Act → World → Prop) (E : List (Nat × Kind)) (A : Vals → Act) : Prop := ∀ x w', Grow w w' → FactsOf M E x w' → Apart E x w w' → K (A x) w'

/-- A region that draws: its first n operations in whatever order, the others in theirs. -/
theorem wp_region_flow {P : Program} {id : Nat} {l : List Oper} {Q : Exit → Act → World → Prop} {a : Act} {w : World} (n : Nat) (hm : P.follows .mixedOrders = true)
    (hB : (flowB l.toArray (Region.before l.toArray) (Array.replicate l.length false) (List.range n) &&
      Region.seqB .any l.toArray (l.drop n).length n ((List.range n).foldl (fun l i => l.setIfInBounds i true) (Array.replicate l.length false)) && decide (n ≤ l.length)) = true)
    (h : ∀ (M : Array Nat) (_ : Hid (M = Region.before l.toArray)) (K : Act → World → Prop) (_ : Hid (∀ a w, wpList P l.toArray Q (l.drop n) a w → K a w)),
      wpFlowL P l.toArray M w (FlowEnd M w K) (l.take n) 0 [] (fun _ => a)) :
    (Code.region id l.toArray true).wp P Q a w := by
  have h := h _ rfl _ (fun _ _ h => h)
  simp only [Bool.and_eq_true, decide_eq_true_eq] at hB
  obtain ⟨⟨hB, hseq⟩, hn⟩ := hB
  have h := wpFlow_of_list (l.take n) 0 _ _ (fun j hj => by
    have hj' : j < n := by have := hj; simp at this; omega
    simp [List.getElem?_take, hj']) h
  rw [← List.range_eq_range', show (l.take n).length = n from by simp; omega] at h
  refine wp_region_any hm ?_
  have hlen : l.toArray.size = (List.range n).length + (l.drop n).length := by simp; omega
  rw [hlen]
  have e : Array.replicate ((List.range n).length + (l.drop n).length) false = Array.replicate l.length false := by rw [← hlen]; simp
  rw [e]
  refine wpAny_flow hB ?_ _ (show Grow w { w with drawn := w.drawn + 1 } from Grow.drew w)
  have mono : ∀ (H : List Nat) (Ts : List (Nat × Kind)) (A : Vals → Act) (F F' : List (Nat × Kind) → (Vals → Act) → Prop), (∀ E A, F E A → F' E A) →
      wpFlow P l.toArray (Region.before l.toArray) w F H Ts A → wpFlow P l.toArray (Region.before l.toArray) w F' H Ts A := by
    intro H
    induction H with
    | nil => intro Ts A F F' hF h; exact hF _ _ h
    | cons i H ih => intro Ts A F F' hF ⟨o, k, ho, hs, hr⟩; exact ⟨o, k, ho, hs, ih _ _ _ _ hF hr⟩
  refine mono _ _ _ _ _ (fun E A hA x w' h1 h2 h3 => ?_) h
  exact wpAny_of_seq (l.drop n) n _ _ _ (fun j => by simp) hseq (hA x w' h1 (factsOf_all E h2) h3)

theorem flow_anc {M : Array Nat} {ops : Array Oper} {i j : Nat} (hM : Hid (M = Region.before ops)) (h : isAnc (Region.before ops) i j = true) : isAnc M i j = true := hM.out ▸ h

/-- A call, met by its contract, of a function that only makes new memory. -/
theorem calls_const {P : Program} {f : FuncId} {args : Array Value} {w : World} {v : Value}
    (h : Calls P f args w fun e w' => e = .returned v ∧ Below w.heap.size w w') : Calls P f args w fun e w' => ∃ u, e = .returned u ∧ Grow w w' ∧ u = v :=
  h.mono fun _ _ ⟨he, hb⟩ => ⟨v, he, hb, rfl⟩
/-- .. of one that leaves the world as it is. -/
theorem calls_const_same {P : Program} {f : FuncId} {args : Array Value} {w : World} {v : Value}
    (h : Calls P f args w fun e w' => e = .returned v ∧ w' = w) : Calls P f args w fun e w' => ∃ u, e = .returned u ∧ Grow w w' ∧ u = v :=
  h.mono fun _ _ ⟨he, hb⟩ => ⟨v, he, hb ▸ Grow.refl _, rfl⟩

/-! ### The blocks that are known -/

/-- Of some blocks all cells are known; no cell of them is frozen. -/
def Blocks (w : World) (L : List (Nat × Array Value × TypeId)) : Prop := ∀ e ∈ L, w.heap[e.1]? = some (.cells e.2.1 e.2.2 (0, 0))

theorem Blocks.nil (w : World) : Blocks w [] := fun _ h => (by cases h)
theorem Blocks.grow {w w' : World} {L : List (Nat × Array Value × TypeId)} (h : Blocks w L) (hg : Grow w w') : Blocks w' L := fun e he => hg.blk (h e he)
theorem Blocks.alloc {w : World} {L : List (Nat × Array Value × TypeId)} {cs : Array Value} {T : TypeId} (h : Blocks w L) : Blocks (w.alloc (.cells cs T)) ((w.heap.size, cs, T) :: L) := fun e he => by
  rcases List.mem_cons.1 he with rfl | he
  · show (w.heap.push _)[w.heap.size]? = _
    simp
  · exact (Grow.alloc w _).blk (h e he)
theorem Blocks.allocOther {w : World} {L : List (Nat × Array Value × TypeId)} {o : Obj} (h : Blocks w L) : Blocks (w.alloc o) L := h.grow (Grow.alloc w o)
theorem Blocks.drew {w : World} {L : List (Nat × Array Value × TypeId)} (h : Blocks w L) : Blocks w.drew L := h
theorem Blocks.add {w : World} {L : List (Nat × Array Value × TypeId)} {b : Nat} {cs : Array Value} {T : TypeId} (h : Blocks w L) (hb : w.heap[b]? = some (.cells cs T (0, 0))) : Blocks w ((b, cs, T) :: L) := fun e he => by
  rcases List.mem_cons.1 he with rfl | he
  · exact hb
  · exact h e he
theorem Blocks.set {w : World} {L : List (Nat × Array Value × TypeId)} {b o : Nat} {v : Value} (h : Blocks w L) :
    Blocks (w.setCell ⟨b, o, none⟩ v) (L.map fun e => if e.1 = b then (e.1, e.2.1.setIfInBounds o v, e.2.2) else e) := fun e he => by
  obtain ⟨e', he', rfl⟩ := List.mem_map.1 he
  have h1 := h e' he'
  by_cases hb : e'.1 = b
  · simp only [if_pos hb, World.setCell, Array.getElem?_modify]
    rw [if_pos hb.symm, h1]
    rfl
  · simp only [if_neg hb, World.setCell, Array.getElem?_modify]
    rw [if_neg (fun e => hb e.symm)]
    exact h1

def RulesAt (W : World) : List (Nat × Array Value × TypeId) → Prop
  | [] => True
  | (b, cs, _) :: L => ((∀ w' o, Grow W w' → w'.cell? ⟨b, o, none⟩ = cs[o]?) ∧ (∀ w' o, Grow W w' → w'.frozen? ⟨b, o, none⟩ = false)) ∧ RulesAt W L

theorem Blocks.rules {W : World} : ∀ {L : List (Nat × Array Value × TypeId)}, Blocks W L → RulesAt W L
  | [], _ => trivial
  | (b, cs, T) :: L, h => by
    refine ⟨⟨fun w' o hg => ?_, fun w' o hg => ?_⟩, Blocks.rules (fun e he => h e (List.mem_cons_of_mem _ he))⟩
    · have := hg.blk (h (b, cs, T) (by simp)); simp [World.cell?, this]
    · have := hg.blk (h (b, cs, T) (by simp)); simp [World.frozen?, this]

theorem Grow.alloc' {w0 w : World} (h : Grow w0 w) {o : Obj} : Grow w0 (w.alloc o) := h.trans (Grow.alloc w o)
theorem Grow.drew' {w0 w : World} (h : Grow w0 w) : Grow w0 w.drew := Below.drew h
theorem Grow.set' {w0 w : World} (h : Grow w0 w) {p : Addr} {v : Value} (hp : w0.heap.size ≤ p.block) : Grow w0 (w.setCell p v) := Below.setCell h hp v

/-- The world is given a name; what is known of it goes on. -/
theorem gen_wp {P : Program} {c : Code} {Q : Exit → Act → World → Prop} {a : Act} {w0 W : World} {L : List (Nat × Array Value × TypeId)} (hb : Blocks W L) (hg : Grow w0 W)
    (h : ∀ W', Blocks W' L → Grow w0 W' → c.wp P Q a W') : c.wp P Q a W := h W hb hg
theorem gen_calls {P : Program} {f : FuncId} {args : Array Value} {R : Ending → World → Prop} {w0 W : World} {L : List (Nat × Array Value × TypeId)} (hb : Blocks W L) (hg : Grow w0 W)
    (h : ∀ W', Blocks W' L → Grow w0 W' → Calls P f args W' R) : Calls P f args W R := h W hb hg
theorem gen_list {P : Program} {ops : Array Oper} {l : List Oper} {Q : Exit → Act → World → Prop} {a : Act} {w0 W : World} {L : List (Nat × Array Value × TypeId)} (hb : Blocks W L) (hg : Grow w0 W)
    (h : ∀ W', Blocks W' L → Grow w0 W' → wpList P ops Q l a W') : wpList P ops Q l a W := h W hb hg

theorem Blocks.setRow {w : World} {L : List (Nat × Array Value × TypeId)} {b : Nat} {cs : Array Value} (h : Blocks w L) :
    Blocks (w.setRow b cs) (L.map fun e => if e.1 = b then (e.1, cs, e.2.2) else e) := fun e he => by
  obtain ⟨e', he', rfl⟩ := List.mem_map.1 he
  have h1 := h e' he'
  by_cases hb : e'.1 = b
  · simp only [if_pos hb]
    exact hb ▸ setRow_heap w e'.1 e'.2.1 cs e'.2.2 _ h1
  · simp only [if_neg hb]
    rw [setRow_other w b e'.1 cs hb]; exact h1
theorem Grow.setRow' {w0 w : World} (h : Grow w0 w) {b : Nat} {cs : Array Value} (hp : w0.heap.size ≤ b) : Grow w0 (w.setRow b cs) :=
  ⟨h.os, h.tape, h.output, by rw [setRow_size]; exact h.size, fun k hk => by rw [setRow_other w b k cs (by omega)]; exact h.block k hk⟩

/-- A whole variable of a known block is stored. -/
theorem wl_store_row {P : Program} {ops : Array Oper} {rest : List Oper} {a : Act} {w0 W : World} {Q : Exit → Act → World → Prop} {L : List (Nat × Array Value × TypeId)}
    {ty t : TypeId} {x y : Operand} {d : Option Tmp} {pos : String} {af : Array Edge} {b : Nat} {cs : Array Value} {T : TypeId} {cells : Array Value}
    (hx : a.eval x = .pointer (some ⟨b, 0, none⟩)) (hy : a.eval y = .agg cells) (hB : Blocks W L) (hG : Grow w0 W) (i : Nat) (hi : L[i]? = some (b, cs, T))
    (hsz : (P.info? ty).map (·.size) = some cells.size) (hcs : cs.size = cells.size) (h1 : cells.all (·.oneCell') = true) (hb0 : w0.heap.size ≤ b)
    (h : ∀ W', Blocks W' (L.map fun e => if e.1 = b then (e.1, cells, e.2.2) else e) → Grow w0 W' → wpList P ops Q rest (a.put d undef) W') :
    wpList P ops Q (⟨d, .store ty x y, t, pos, af, none⟩ :: rest) a W :=
  wpList_store_row rfl ty x y rfl b cells hx hy T cs (hB _ (List.mem_of_getElem? hi)) hsz hcs h1 (h _ hB.setRow (hG.setRow' hb0))

/-! ### A new block within a region that draws -/

/-- Operation i made a block of these cells. -/
def AllocFact (i : Nat) (cs : Array Value) (T : TypeId) : Fact := fun x w =>
  (x i).val = .pointer (some ⟨(x i).lo, 0, none⟩) ∧ (x i).hi = (x i).lo + 1 ∧ w.heap[(x i).lo]? = some (.cells cs T (0, 0))

def AllocPost (w : World) (cs : Array Value) (T : TypeId) (b : Born) (w' : World) : Prop := b.val = .pointer (some ⟨w.heap.size, 0, none⟩) ∧ w' = w.alloc (.cells cs T) ∧ b.lo = w.heap.size ∧ b.hi = w'.heap.size

theorem flow_alloc {P : Program} {ops : Array Oper} {M : Array Nat} {W : World} {Fin : List (Nat × Kind) → (Vals → Act) → Prop} {i : Nat} {l : List Oper} {Ts : List (Nat × Kind)} {A : Vals → Act} {o : Oper} {cs : Array Value} {T : TypeId}
    (h : ∀ x w, Grow W w → Facts M Ts i x w → Region.wanted o (yielded ops (A x).tmps) = true ∧ newAt P o (A x) w (AllocPost w cs T))
    (k : wpFlowL P ops M W Fin l (i + 1) (Ts ++ [(i, .new (AllocFact i cs T))]) (fun x => (A x).put o.dst (x i).val)) : wpFlowL P ops M W Fin (o :: l) i Ts A := by
  refine flow_new (AllocFact i cs T) (fun x w w' hg ⟨h1, h2, h3⟩ => ⟨h1, h2, hg.blk h3⟩) (fun x w hw hf => ?_) k
  obtain ⟨h1, h2⟩ := h x w hw hf
  refine ⟨h1, ?_⟩
  unfold newAt at *
  refine newUpon_mono P (fun b w' _ hp => ?_) h2
  obtain ⟨e1, e2, e3, e4⟩ := hp
  subst e2
  simp only [AllocFact, mask_self, upd_self]
  rw [e3, e4]
  refine ⟨e1, by simp, ?_⟩
  show (w.heap.push _)[w.heap.size]? = _
  simp

def NewsApart (j : Nat) (x : Vals) : List (Nat × Kind) → Prop
  | [] => True
  | (k, .new _) :: Ts => ((x j).hi ≤ (x k).lo ∨ (x k).hi ≤ (x j).lo) ∧ NewsApart j x Ts
  | (_, .const _) :: Ts => NewsApart j x Ts
  | (_, .skip) :: Ts => NewsApart j x Ts
def ApartOf (x : Vals) (W w : World) : List (Nat × Kind) → Prop
  | [] => True
  | (j, .new _) :: Ts => ((W.heap.size ≤ (x j).lo ∧ (x j).lo ≤ (x j).hi ∧ (x j).hi ≤ w.heap.size) ∧ NewsApart j x Ts) ∧ ApartOf x W w Ts
  | (_, .const _) :: Ts => ApartOf x W w Ts
  | (_, .skip) :: Ts => ApartOf x W w Ts

theorem newsApart_of {j : Nat} {x : Vals} : ∀ (Ts : List (Nat × Kind)), (∀ k U, (k, Kind.new U) ∈ Ts → (x j).hi ≤ (x k).lo ∨ (x k).hi ≤ (x j).lo) → NewsApart j x Ts
  | [], _ => trivial
  | (k, .new U) :: Ts, h => ⟨h k U (by simp), newsApart_of Ts fun q V hq => h q V (List.mem_cons_of_mem _ hq)⟩
  | (k, .const v) :: Ts, h => newsApart_of Ts fun q V hq => h q V (List.mem_cons_of_mem _ hq)
  | (k, .skip) :: Ts, h => newsApart_of Ts fun q V hq => h q V (List.mem_cons_of_mem _ hq)

theorem apartOf_all {x : Vals} {W w : World} : ∀ (Ts : List (Nat × Kind)), (Ts.map (·.1)).Nodup → Apart Ts x W w → ApartOf x W w Ts
  | [], _, _ => trivial
  | (j, .new T) :: Ts, hn, h => by
    simp only [List.map_cons, List.nodup_cons, List.mem_map] at hn
    refine ⟨⟨h.1 j T (by simp), newsApart_of Ts fun k U hk => h.2 j T k U (by simp) (List.mem_cons_of_mem _ hk) fun e => hn.1 ⟨(k, .new U), hk, e.symm⟩⟩, ?_⟩
    exact apartOf_all Ts hn.2 ⟨fun k U hk => h.1 k U (List.mem_cons_of_mem _ hk), fun k U q V hk hq => h.2 k U q V (List.mem_cons_of_mem _ hk) (List.mem_cons_of_mem _ hq)⟩
  | (j, .const v) :: Ts, hn, h => by
    simp only [List.map_cons, List.nodup_cons] at hn
    exact apartOf_all Ts hn.2 ⟨fun k U hk => h.1 k U (List.mem_cons_of_mem _ hk), fun k U q V hk hq => h.2 k U q V (List.mem_cons_of_mem _ hk) (List.mem_cons_of_mem _ hq)⟩
  | (j, .skip) :: Ts, hn, h => by
    simp only [List.map_cons, List.nodup_cons] at hn
    exact apartOf_all Ts hn.2 ⟨fun k U hk => h.1 k U (List.mem_cons_of_mem _ hk), fun k U q V hk hq => h.2 k U q V (List.mem_cons_of_mem _ hk) (List.mem_cons_of_mem _ hq)⟩

def LtsAt (W : World) : List (Nat × Array Value × TypeId) → Prop
  | [] => True
  | (b, _, _) :: L => b < W.heap.size ∧ LtsAt W L
theorem Blocks.lts {W : World} : ∀ {L : List (Nat × Array Value × TypeId)}, Blocks W L → LtsAt W L
  | [], _ => trivial
  | (b, cs, T) :: L, h => ⟨(Array.getElem?_eq_some_iff.1 (h (b, cs, T) (by simp))).1, Blocks.lts (fun e he => h e (List.mem_cons_of_mem _ he))⟩

theorem calls_eq {P : Program} {f : FuncId} {args : Array Value} {w : World} {v v' : Value} (h : Calls P f args w fun e w' => e = .returned v ∧ Below w.heap.size w w') (e : v = v') : Calls P f args w fun e w' => e = .returned v' ∧ Below w.heap.size w w' := e ▸ h

/-- What Grow says of the cells, as the walk takes it. -/
theorem gcell {W w1 : World} (hb : Grow W w1) : (∀ b o, b < W.heap.size → w1.cell? ⟨b, o, none⟩ = W.cell? ⟨b, o, none⟩) ∧ (∀ b o, b < W.heap.size → w1.frozen? ⟨b, o, none⟩ = W.frozen? ⟨b, o, none⟩) :=
  ⟨fun b o h => Below.cell hb (p := ⟨b, o, none⟩) h, fun b o h => Below.frozen hb (p := ⟨b, o, none⟩) h⟩

end
end Go.Flow
