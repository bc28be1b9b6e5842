/- A symbolic executor of functions: variables, one operation's step, regions in the text's order and in any order. What it tells of a piece of code is proved to be what the machine does. -/
import Derived.Test.YtnlejejjeilpoaaExA
import Derived.Test.YtnlejejjeilpoaaFlow
set_option linter.unusedSimpArgs false
set_option linter.unusedVariables false
set_option linter.constructorNameAsVariable false
namespace Go.Ex
open Go

/-! ### Variables -/
def E.upto (n : Nat) : E → Bool
  | .lit _ | .tt | .ff => true
  | .var i | .bvar i => decide (i < n)
  | .add a b | .sub a b | .mul a b | .quo a b | .rem a b | .bits _ _ a b | .shl _ a b | .shr _ a b | .and a b | .or a b | .lt a b | .le a b | .eq a b | .beq a b => a.upto n && b.upto n
  | .wrap _ a | .not a => a.upto n
  | .ite c a b => c.upto n && a.upto n && b.upto n
  | .romI x y _ | .romB x y _ | .romP x y _ _ | .romIs x y _ _ => x.upto n && y.upto n

structure Agree (n : Nat) (ρ ρ' : Env) : Prop where
  w : ρ'.w = ρ.w
  i : ∀ k, k < n → ρ'.i k = ρ.i k
  b : ∀ k, k < n → ρ'.b k = ρ.b k
theorem Agree.refl (n : Nat) (ρ : Env) : Agree n ρ ρ := ⟨rfl, fun _ _ => rfl, fun _ _ => rfl⟩
theorem Agree.trans {n : Nat} {a b c : Env} (h : Agree n a b) (k : Agree n b c) : Agree n a c :=
  ⟨k.w.trans h.w, fun i hi => (k.i i hi).trans (h.i i hi), fun i hi => (k.b i hi).trans (h.b i hi)⟩
theorem Agree.mono {n m : Nat} {a b : Env} (h : Agree n a b) (hm : m ≤ n) : Agree m a b := ⟨h.w, fun i hi => h.i i (by omega), fun i hi => h.b i (by omega)⟩

theorem ev_agree {n : Nat} {ρ ρ' : Env} (h : Agree n ρ ρ') : ∀ e : E, e.upto n = true → ev ρ' e = ev ρ e := by
  intro e
  induction e with
  | var i => intro hb; simp only [E.upto, decide_eq_true_eq] at hb; simp only [ev, h.i i hb]
  | bvar i => intro hb; simp only [E.upto, decide_eq_true_eq] at hb; simp only [ev, h.b i hb]
  | lit _ => intro _; rfl
  | tt => intro _; rfl
  | ff => intro _; rfl
  | wrap k a ih => intro hb; simp only [E.upto] at hb; simp only [ev, ih hb]
  | not a ih => intro hb; simp only [E.upto] at hb; simp only [ev, ih hb]
  | ite c a b ihc iha ihb => intro hb; simp only [E.upto, Bool.and_eq_true] at hb; simp only [ev, ihc hb.1.1, iha hb.1.2, ihb hb.2]
  | romI x y j ihx ihy => intro hb; simp only [E.upto, Bool.and_eq_true] at hb; simp only [ev, ihx hb.1, ihy hb.2, h.w]
  | romB x y j ihx ihy => intro hb; simp only [E.upto, Bool.and_eq_true] at hb; simp only [ev, ihx hb.1, ihy hb.2, h.w]
  | romP x y j k ihx ihy => intro hb; simp only [E.upto, Bool.and_eq_true] at hb; simp only [ev, ihx hb.1, ihy hb.2, h.w]
  | romIs x y j k ihx ihy => intro hb; simp only [E.upto, Bool.and_eq_true] at hb; simp only [ev, ihx hb.1, ihy hb.2, h.w]
  | _ => rename_i iha ihb; intro hb; simp only [E.upto, Bool.and_eq_true] at hb; simp only [ev, iha hb.1, ihb hb.2]
theorem iev_agree {n : Nat} {ρ ρ' : Env} (h : Agree n ρ ρ') {e : E} (hb : e.upto n = true) : iev ρ' e = iev ρ e := by unfold iev; rw [ev_agree h e hb]
theorem bev_agree {n : Nat} {ρ ρ' : Env} (h : Agree n ρ ρ') {e : E} (hb : e.upto n = true) : bev ρ' e = bev ρ e := by unfold bev; rw [ev_agree h e hb]

def CV.upto (n : Nat) : CV → Bool
  | .int _ e | .bool e => e.upto n
  | .ptr _ _ | .val _ => true
  | .pti _ _ _ _ i => i.upto n
  | .rptr x y => x.upto n && y.upto n
  | .rsl x y l c => x.upto n && y.upto n && l.upto n && c.upto n
def SV.upto (n : Nat) : SV → Bool
  | .one c => c.upto n
  | .agg l => l.all (·.upto n)
def TV.upto (n : Nat) : TV → Bool
  | .sv s => s.upto n
  | .tup l => l.all (·.upto n)
def Slot.upto (n : Nat) (s : Slot) : Bool := s.c.upto n && s.v.upto n
def optB {α : Type} (f : α → Bool) : Option α → Bool
  | some x => f x
  | none => true
def Mem.upto (n : Nat) (m : Mem) : Bool := m.all (optB fun b => b.1.all (·.upto n))
def St.upto (n : Nat) (st : St) : Bool := st.tmps.all (optB (·.upto n)) && Mem.upto n st.mem && st.live.upto n

section
variable {P : Program} {S : Nat → Prop} {w0 : World} {β : Nat → Nat} {ρ ρ' : Env} {st : St} {a : Act} {w : World} {g n : E} {v : TV}

theorem CV.agree {m : Nat} (h : Agree m ρ ρ') (c : CV) (hb : c.upto m = true) : c.ev β ρ' = c.ev β ρ := by
  cases c <;> simp only [CV.upto, Bool.and_eq_true] at hb <;> simp only [CV.ev]
  · rw [iev_agree h hb]
  · rw [bev_agree h hb]
  · rw [iev_agree h hb]
  · rw [iev_agree h hb.1, iev_agree h hb.2]
  · rw [iev_agree h hb.1.1.1, iev_agree h hb.1.1.2, iev_agree h hb.1.2, iev_agree h hb.2]
theorem CV.agreeL {m : Nat} (h : Agree m ρ ρ') (l : List CV) (hb : l.all (·.upto m) = true) : l.map (CV.ev β ρ') = l.map (CV.ev β ρ) := by
  rw [List.all_eq_true] at hb
  exact List.map_congr_left fun c hc => CV.agree h c (hb c hc)
theorem SV.agree {m : Nat} (h : Agree m ρ ρ') (s : SV) (hb : s.upto m = true) : s.ev β ρ' = s.ev β ρ := by
  cases s with
  | one c => exact CV.agree h c hb
  | agg l => simp only [SV.ev, CV.agreeL h l hb]
theorem TV.agree {m : Nat} (h : Agree m ρ ρ') (s : TV) (hb : s.upto m = true) : s.ev β ρ' = s.ev β ρ := by
  cases s with
  | sv c => exact SV.agree h c hb
  | tup l =>
    simp only [TV.upto, List.all_eq_true] at hb
    simp only [TV.ev, List.map_congr_left fun c hc => SV.agree h c (hb c hc)]

theorem Rom.agree {m : Nat} (h : Agree m ρ ρ') (hr : Rom S w0 ρ) : Rom S w0 ρ' := by unfold Rom; rw [h.w]; exact hr

theorem MRel.agree {m : Nat} {mem : Mem} (h : Agree m ρ ρ') (hb : mem.upto m = true) (hr : MRel S w0 β ρ mem w) : MRel S w0 β ρ' mem w := by
  refine ⟨hr.rom.agree h, hr.keep, fun b l T hm => ?_, hr.own, hr.inj⟩
  unfold Mem.upto at hb
  rw [List.all_eq_true] at hb
  have := hb _ (List.mem_of_getElem? hm)
  rw [CV.agreeL h l this]
  exact hr.blk b l T hm

theorem Rel.agree {m : Nat} (h : Agree m ρ ρ') (hb : st.upto m = true) (hr : Rel S w0 β ρ st a w) : Rel S w0 β ρ' st a w := by
  simp only [St.upto, Bool.and_eq_true] at hb
  refine ⟨hr.toMRel.agree h hb.1.2, hr.size, hr.defers, fun t s hs => ?_⟩
  have := hb.1.1
  rw [List.all_eq_true] at this
  have := this _ (List.mem_of_getElem? hs)
  simp only [optB, Slot.upto, Bool.and_eq_true] at this
  rw [bev_agree h this.1, TV.agree h s.v this.2]
  exact hr.tmp t s hs
theorem RelA.agree {m : Nat} (h : Agree m ρ ρ') (hb : st.upto m = true) (hr : RelA S w0 β ρ st a w) : RelA S w0 β ρ' st a w := fun β' hβ => (hr β' hβ).agree h hb

/-! ### What is owed, and how variables come -/
inductive Ev | id | x (k : Nat) (X : List E → Nat → Env → Env) (es : List E) (nv : Nat) | seq (a b : Ev) | ite (c : E) (a b : Ev)
inductive Nd | tt | e (x : E) | p (k : Nat) (N : List E → Env → Prop) (es : List E) | and (a b : Nd) | imp (c : E) (a : Nd) | at (v : Ev) (a : Nd)
def Ev.run : Ev → Env → Env
  | .id, ρ => ρ
  | .x _ X es nv, ρ => X es nv ρ
  | .seq a b, ρ => b.run (a.run ρ)
  | .ite c a b, ρ => if bev ρ c = true then a.run ρ else b.run ρ
def Nd.holds : Nd → Env → Prop
  | .tt, _ => True
  | .e x, ρ => bev ρ x = true
  | .p _ N es, ρ => N es ρ
  | .and a b, ρ => a.holds ρ ∧ b.holds ρ
  | .imp c a, ρ => bev ρ c = true → a.holds ρ
  | .at v a, ρ => a.holds (v.run ρ)
def evSeq : Ev → Ev → Ev
  | .id, b => b
  | a, .id => a
  | a, b => .seq a b
def evIte (c : E) (a b : Ev) : Ev :=
  match c, a, b with
  | _, .id, .id => .id
  | .tt, a, _ => a
  | .ff, _, b => b
  | c, a, b => .ite c a b
def ndE : E → Nd
  | .tt => .tt
  | x => .e x
def ndAnd : Nd → Nd → Nd
  | .tt, b => b
  | a, .tt => a
  | a, b => .and a b
def ndImp : E → Nd → Nd
  | _, .tt => .tt
  | .tt, a => a
  | c, a => .imp c a
def ndAt : Ev → Nd → Nd
  | _, .tt => .tt
  | .id, a => a
  | v, a => .at v a
theorem evSeq_run (a b : Ev) (ρ : Env) : (evSeq a b).run ρ = b.run (a.run ρ) := by unfold evSeq; split <;> rfl
theorem evIte_run (c : E) (a b : Ev) (ρ : Env) : (evIte c a b).run ρ = if bev ρ c = true then a.run ρ else b.run ρ := by
  unfold evIte; split
  · simp [Ev.run]
  · simp [bev_tt]
  · simp [bev_ff]
  · rfl
theorem ndE_holds (x : E) (ρ : Env) : (ndE x).holds ρ = (bev ρ x = true) := by
  unfold ndE; split
  · simp [Nd.holds, bev_tt]
  · rfl
theorem ndAnd_holds (a b : Nd) (ρ : Env) : (ndAnd a b).holds ρ = (a.holds ρ ∧ b.holds ρ) := by unfold ndAnd; split <;> simp [Nd.holds]
theorem ndImp_holds (c : E) (a : Nd) (ρ : Env) : (ndImp c a).holds ρ = (bev ρ c = true → a.holds ρ) := by unfold ndImp; split <;> simp [Nd.holds, bev_tt]
theorem ndAt_holds (v : Ev) (a : Nd) (ρ : Env) : (ndAt v a).holds ρ = a.holds (v.run ρ) := by unfold ndAt; split <;> simp [Nd.holds, Ev.run]

/-! ### Guards -/
def guardE (ops : List Oper) (st : St) (o : Oper) : Option E :=
  match o.guard with
  | none => some .tt
  | some (j, want) => match (ops[j]?).bind (·.dst) with
    | some t => match st.tmps[t]? with
      | some (some ⟨c, .sv (.one (.bool e))⟩) => some (mkAnd c (if want then e else mkNot e))
      | _ => none
    | none => none

theorem guard_sound (hr : Rel S w0 β ρ st a w) {ops : List Oper} {o : Oper} {gc : E} (h : guardE ops st o = some gc) : Region.wanted o (yielded ops.toArray a.tmps) = bev ρ gc := by
  unfold guardE at h
  unfold Region.wanted
  split at h
  · rename_i hg; cases h; simp only [hg, bev_tt]
  · rename_i j want hg
    simp only [hg]
    split at h
    · rename_i t ht
      split at h
      · rename_i c e hs
        cases h
        have := hr.tmp t _ hs
        have hy : yielded ops.toArray a.tmps j = if bev ρ c then some (bev ρ e) else none := by
          unfold yielded
          have e1 : (ops.toArray[j]?).bind (·.dst) = some t := by simpa using ht
          rw [e1]
          simp only [Option.bind_some, this, TV.ev, SV.ev, CV.ev]
          cases bev ρ c <;> rfl
        rw [hy, bev_mkAnd]
        cases want
        · cases bev ρ c <;> simp [bev_mkNot] <;> cases bev ρ e <;> rfl
        · cases bev ρ c <;> simp <;> cases bev ρ e <;> rfl
      · cases h
    · cases h
end
end Go.Ex

namespace Go.Ex
open Go

/-! ### A store whose place hangs on a number -/
def updSel (l : List CV) (o s : Nat) (i : E) (c : CV) : Nat → Option (List CV)
  | 0 => some l
  | m + 1 => match updSel l o s i c m with
    | some l' => match l'[o + s * m]? with
      | some old => match mergeCV (mkEq i (.lit m)) c old with
        | some v => some (l'.set (o + s * m) v)
        | none => none
      | none => none
    | none => none

theorem set_same {α : Type} : ∀ (l : List α) (k : Nat) (x : α), l[k]? = some x → l.set k x = l
  | [], _, _, _ => rfl
  | y :: l, 0, x, h => by simp at h; simp [h]
  | y :: l, k + 1, x, h => by simp at h; simp [set_same l k x h]
theorem updSel_sound {β : Nat → Nat} {ρ : Env} {l : List CV} {o s : Nat} {i : E} {c : CV} (h0 : 0 ≤ iev ρ i) : ∀ (m : Nat) (l' : List CV), updSel l o s i c m = some l' →
    l'.length = l.length ∧ l'.map (CV.ev β ρ) = if iev ρ i < m then (l.map (CV.ev β ρ)).set (o + s * (iev ρ i).toNat) (c.ev β ρ) else l.map (CV.ev β ρ)
  | 0, l', h => by
    cases h
    refine ⟨rfl, ?_⟩
    rw [if_neg (by simpa using h0)]
  | m + 1, l', h => by
    simp only [updSel] at h
    split at h
    · rename_i l1 h1
      split at h
      · rename_i old hold
        split at h
        · rename_i v hv
          cases h
          obtain ⟨e1, e2⟩ := updSel_sound h0 m l1 h1
          refine ⟨by simp [e1], ?_⟩
          have hm := mergeCV_ev (β := β) (ρ := ρ) hv
          rw [bev_mkEq, iev_lit] at hm
          rw [List.map_set]
          by_cases hc : iev ρ i = (m : Int)
          · have e3 : (iev ρ i).toNat = m := by omega
            rw [if_neg (by omega)] at e2
            rw [if_pos (show iev ρ i < ((m + 1 : Nat) : Int) by omega), e3, e2, hm, if_pos (by simpa using hc)]
          · rw [if_neg (by simpa using hc)] at hm
            rw [hm, set_same _ _ _ (show (l1.map (CV.ev β ρ))[o + s * m]? = some (old.ev β ρ) by simp [hold]), e2]
            by_cases hi : iev ρ i < m
            · rw [if_pos hi, if_pos (by omega)]
            · rw [if_neg hi, if_neg (by omega)]
        · cases h
      · cases h
    · cases h

/-! ### What is told of a call -/
structure CallR where
  r : TV
  mem : Mem
  nv : Nat
  need : Nd
  env : Ev

abbrev Caller := FuncId → List TV → Mem → E → Nat → Option CallR

def ArgsA (n : Nat) (β : Nat → Nat) (ρ : Env) (args : List TV) (xs : List Value) : Prop := ∀ β', AgB n β β' → args.map (TV.ev β' ρ) = xs

def CallAt (P : Program) (f : FuncId) (args : List TV) (mem : Mem) (live : E) (nv : Nat) (R : CallR) : Prop :=
  nv ≤ R.nv ∧ mem.length ≤ R.mem.length ∧ (∀ ρ, Agree nv ρ (R.env.run ρ)) ∧
  ∀ S w0 β ρ w xs, MRelA S w0 β ρ mem w → bev ρ live = true → R.need.holds ρ → ArgsA mem.length β ρ args xs →
    Calls P f xs.toArray w fun e w' => ∃ β' x, AgB mem.length β β' ∧ MRelA S w0 β' (R.env.run ρ) R.mem w' ∧ e = .returned x ∧ ∀ β'', AgB R.mem.length β' β'' → R.r.ev β'' (R.env.run ρ) = x

def CallerOK (P : Program) (call : Caller) : Prop := ∀ f args mem live nv R, call f args mem live nv = some R → CallAt P f args mem live nv R

/-- No place of a block in it. -/
def CV.noPtr : CV → Bool
  | .ptr _ _ | .pti _ _ _ _ _ => false
  | _ => true
def SV.noPtr : SV → Bool
  | .one c => c.noPtr
  | .agg l => l.all CV.noPtr
def TV.noPtr : TV → Bool
  | .sv s => s.noPtr
  | .tup l => l.all SV.noPtr
theorem CV.noPtr_ev {β β' : Nat → Nat} {ρ : Env} (c : CV) (h : c.noPtr = true) : c.ev β ρ = c.ev β' ρ := by
  cases c <;> first | rfl | cases h
theorem SV.noPtr_ev {β β' : Nat → Nat} {ρ : Env} (c : SV) (h : c.noPtr = true) : c.ev β ρ = c.ev β' ρ := by
  cases c with
  | one c => exact CV.noPtr_ev c h
  | agg l =>
    simp only [SV.noPtr, List.all_eq_true] at h
    simp only [SV.ev]
    rw [List.map_congr_left (g := CV.ev β' ρ) fun c hc => CV.noPtr_ev c (h c hc)]
theorem TV.noPtr_ev {β β' : Nat → Nat} {ρ : Env} (c : TV) (h : c.noPtr = true) : c.ev β ρ = c.ev β' ρ := by
  cases c with
  | sv c => exact SV.noPtr_ev c h
  | tup l =>
    simp only [TV.noPtr, List.all_eq_true] at h
    simp only [TV.ev]
    rw [List.map_congr_left (g := SV.ev β' ρ) fun c hc => SV.noPtr_ev c (h c hc)]

/-- A call that sees none of the known blocks. -/
def pureCall (call : Caller) (f : FuncId) (args : List TV) (live : E) (nv : Nat) : Option CallR :=
  if args.all TV.noPtr then match call f args [] live nv with
    | some R => if R.r.noPtr then some R else none
    | none => none
  else none

theorem pureCall_sound' {P : Program} {call : Caller} {f : FuncId} {args : List TV} {live : E} {nv : Nat} {R : CallR} (hc : ∀ R, call f args [] live nv = some R → CallAt P f args [] live nv R) (h : pureCall call f args live nv = some R)
    {β : Nat → Nat} {ρ : Env} {w : World} (hrom : ∀ (k : Nat) (o : Obj), ρ.w.heap[k]? = some o → w.heap[k]? = some o) (hl : bev ρ live = true) (hn : R.need.holds ρ) :
    nv ≤ R.nv ∧ (∀ ρ, Agree nv ρ (R.env.run ρ)) ∧ Calls P f (args.map (TV.ev β ρ)).toArray w fun e w' => e = .returned (R.r.ev β (R.env.run ρ)) ∧ RowKit.Below w.heap.size w w' := by
  unfold pureCall at h
  split at h
  · rename_i ha
    split at h
    · rename_i R' hR
      split at h
      · rename_i hp
        cases h
        obtain ⟨h1, h2, h3, h4⟩ := hc _ hR
        refine ⟨h1, h3, ?_⟩
        have hm : MRelA (fun _ => False) w β ρ [] w := fun β' _ => ⟨fun k o hk => ⟨id, hrom k o hk⟩, ⟨rfl, rfl, rfl, Nat.le_refl _, fun _ _ _ => rfl⟩, fun b l T hb => by simp at hb, fun b x hb => by simp at hb, fun b c x y hb => by simp at hb⟩
        rw [List.all_eq_true] at ha
        refine (h4 _ w β ρ w (args.map (TV.ev β ρ)) hm hl hn (fun β' _ => List.map_congr_left fun c hc => TV.noPtr_ev c (ha c hc))).mono fun e w' ⟨β', x, _, hmm, he, hx⟩ => ?_
        have k := hmm.self.keep
        refine ⟨?_, ⟨k.os, k.tape, k.output, k.size, fun i hi => k.block i hi id⟩⟩
        rw [he, ← hx β' (AgB.refl _ _), TV.noPtr_ev _ hp]
      · cases h
    · cases h
  · cases h

theorem pureCall_sound {P : Program} {call : Caller} (hc : CallerOK P call) {f : FuncId} {args : List TV} {live : E} {nv : Nat} {R : CallR} (h : pureCall call f args live nv = some R)
    {β : Nat → Nat} {ρ : Env} {w : World} (hrom : ∀ (k : Nat) (o : Obj), ρ.w.heap[k]? = some o → w.heap[k]? = some o) (hl : bev ρ live = true) (hn : R.need.holds ρ) :
    nv ≤ R.nv ∧ (∀ ρ, Agree nv ρ (R.env.run ρ)) ∧ Calls P f (args.map (TV.ev β ρ)).toArray w fun e w' => e = .returned (R.r.ev β (R.env.run ρ)) ∧ RowKit.Below w.heap.size w w' :=
  pureCall_sound' (fun R hR => hc _ _ _ _ _ _ hR) h hrom hl hn

/-! ### A step -/
structure StepR where
  st : St
  need : Nd
  env : Ev

def dummy : TV := .tup []

def storeE (P : Program) (st : St) (t : TypeId) (p : CV) (v : SV) : Option (E × Mem) :=
  match p with
  | .ptr b o => match st.mem[b]? with
    | some (some (l, T)) => if sizeT P t = some v.cells.length ∧ v.cells.all CV.cellB = true ∧ o + v.cells.length ≤ l.length then some (.tt, st.mem.set b (some (splice l o v.cells, T))) else none
    | _ => none
  | .pti b o s k i => match st.mem[b]?, v with
    | some (some (l, T)), .one c => if sizeT P t = some 1 ∧ c.cellB = true ∧ (∀ j, j < k → o + s * j < l.length) then
        (updSel l o s i c k).map fun l' => (inB i k, st.mem.set b (some (l', T)))
      else none
    | _, _ => none
  | _ => none

/-- A function with a body of its own. -/
def enterB (P : Program) (f : FuncId) : Bool :=
  match P.funcs[f]? with
  | some fn => fn.body.isSome && !(fn.name == "runtime.NumGoroutine")
  | none => false
theorem enterB_run {P : Program} {f : FuncId} (h : enterB P f = true) (args : Array Value) (w : World) : (callFunc f args).run P w = .ok (.enter f args) w := by
  unfold enterB at h
  split at h
  · rename_i fn hf
    simp only [Bool.and_eq_true, Bool.not_eq_true'] at h
    unfold callFunc
    simp only [Sem.run_bind, program, Sem.run, Result.andThen_ok, hf, h.2, Bool.false_eq_true, if_false]
    cases hb : fn.body with
    | none => simp [hb] at h
    | some c => simp
  · cases h

def step (P : Program) (call : Caller) (ops : List Oper) (o : Oper) (st : St) : Option StepR :=
  match guardE ops st o with
  | none => none
  | some .ff => some ⟨st.put o.dst .ff dummy, .tt, .id⟩
  | some gc =>
    let g := mkAnd st.live gc
    match quiet P st g o.op with
    | some (n, v) => some ⟨st.put o.dst gc v, ndE n, .id⟩
    | none => match o.op with
      | .alloc t => match gc, zeroT P t with
        | .tt, some z => some ⟨({ st with mem := st.mem ++ [some (z.cells.toList.map liftC, t)] } : St).put o.dst .tt (.sv (.one (.ptr st.mem.length 0))), .tt, .id⟩
        | _, _ => none
      | .box t x => match gc, opnd st st.live x with
        | .tt, some (n, .sv v) => if v.cells.all CV.cellB = true then
            some ⟨({ st with mem := st.mem ++ [some (v.cells, t)] } : St).put o.dst .tt (.sv (.one (.ptr st.mem.length 0))), ndE n, .id⟩ else none
        | _, _ => none
      | .store t p x => match gc, opnd st st.live p, opnd st st.live x with
        | .tt, some (n, .sv (.one pv)), some (m, .sv v) => match storeE P st t pv v with
          | some (k, mem) => some ⟨({ st with mem := mem } : St).put o.dst .ff dummy, ndAnd (ndE n) (ndAnd (ndE m) (ndE (mkImp st.live k))), .id⟩
          | none => none
        | _, _, _ => none
      | .call { callee := .value (.func f), args, argTypes := _ } => match opnds st g args.toList, enterB P f with
        | some (n, vs), true => match pureCall call f vs .tt st.nv with
          | some R => if st.upto st.nv = true ∧ gc.upto st.nv = true then some ⟨({ st with nv := R.nv } : St).put o.dst gc R.r, ndImp gc (ndAnd (ndE n) R.need), evIte gc R.env .id⟩ else none
          | none => match gc with
            | .tt => match call f vs st.mem .tt st.nv with
              | some R => if st.upto st.nv = true then some ⟨({ st with mem := R.mem, nv := R.nv } : St).put o.dst .tt R.r, ndAnd (ndE n) R.need, R.env⟩ else none
              | none => none
            | _ => none
        | _, _ => none
      | _ => none

theorem storeE_sound {P : Program} {S : Nat → Prop} {w0 : World} {β : Nat → Nat} {ρ : Env} {st : St} {w : World} {t : TypeId} {p : CV} {v : SV} {k : E} {mem : Mem}
    (hm : MRel S w0 β ρ st.mem w) (h : storeE P st t p v = some (k, mem)) (hk : bev ρ k = true) :
    ∃ q w', p.ev β ρ = .pointer (some q) ∧ (storeVar t q (v.ev β ρ)).run P w = .ok () w' ∧ MRel S w0 β ρ mem w' := by
  unfold storeE at h
  split at h
  · rename_i b o
    split at h
    · rename_i l T hb
      split at h
      · rename_i hc
        cases h
        exact ⟨_, _, rfl, storeVar_sound hc.1 hc.2.1 hc.2.2 (hm.blk b l T hb), hm.setBlk hb⟩
      · cases h
    · cases h
  · rename_i b o s m i
    split at h
    · rename_i l T c hb
      split at h
      · rename_i hc
        simp only [Option.map_eq_some_iff, Prod.mk.injEq] at h
        obtain ⟨l', hl', rfl, rfl⟩ := h
        obtain ⟨h0, h1⟩ := inB_sound hk
        obtain ⟨e1, e2⟩ := updSel_sound (β := β) (c := c) h0 m l' hl'
        rw [if_pos h1] at e2
        have hlt := hc.2.2 (iev ρ i).toNat (by omega)
        refine ⟨_, _, rfl, storeVar_sound (v := .one c) hc.1 (by simp [SV.cells, hc.2.1]) (by simp only [SV.cells, List.length_singleton]; omega) (hm.blk b l T hb), ?_⟩
        have := hm.setBlk (l' := l') hb
        rw [e2] at this
        have e3 : (splice l (o + s * (iev ρ i).toNat) (SV.one c).cells).map (CV.ev β ρ) = (l.map (CV.ev β ρ)).set (o + s * (iev ρ i).toNat) (c.ev β ρ) := by
          simp only [splice, SV.cells, List.map_append, List.map_take, List.map_drop, List.map_cons, List.map_nil, List.length_singleton]
          rw [List.set_eq_take_append_cons_drop, if_pos (by simpa using hlt)]
          simp
        rw [e3]; exact this
      · cases h
    · cases h
  · cases h

theorem storeE_length {P : Program} {st : St} {t : TypeId} {p : CV} {v : SV} {k : E} {mem : Mem} (h : storeE P st t p v = some (k, mem)) : mem.length = st.mem.length := by
  unfold storeE at h
  split at h
  · split at h
    · split at h
      · cases h; simp
      · cases h
    · cases h
  · split at h
    · split at h
      · simp only [Option.map_eq_some_iff, Prod.mk.injEq] at h
        obtain ⟨_, _, _, rfl⟩ := h; simp
      · cases h
    · cases h
  · cases h

theorem St.put_mem (st : St) (d : Option Tmp) (c : E) (v : TV) : (st.put d c v).mem = st.mem := by cases d <;> rfl
theorem St.put_live (st : St) (d : Option Tmp) (c : E) (v : TV) : (st.put d c v).live = st.live := by cases d <;> rfl
theorem St.put_nv (st : St) (d : Option Tmp) (c : E) (v : TV) : (st.put d c v).nv = st.nv := by cases d <;> rfl

theorem step_facts {P : Program} {call : Caller} (hc : CallerOK P call) {ops : List Oper} {o : Oper} {st : St} {R : StepR} (h : step P call ops o st = some R) :
    R.st.live = st.live ∧ st.nv ≤ R.st.nv ∧ st.mem.length ≤ R.st.mem.length ∧ (∀ ρ, Agree st.nv ρ (R.env.run ρ)) ∧ (∀ ρ, bev (R.env.run ρ) st.live = bev ρ st.live) := by
  have hid : (∀ ρ : Env, Agree st.nv ρ (Ev.id.run ρ)) ∧ (∀ ρ : Env, bev (Ev.id.run ρ) st.live = bev ρ st.live) := ⟨fun ρ => Agree.refl _ _, fun _ => rfl⟩
  unfold step at h
  split at h
  · cases h
  · cases h; exact ⟨St.put_live _ _ _ _, by rw [St.put_nv]; exact Nat.le_refl _, by rw [St.put_mem]; exact Nat.le_refl _, hid⟩
  · rename_i gc hne hgc
    simp only at h
    split at h
    · cases h; exact ⟨St.put_live _ _ _ _, by rw [St.put_nv]; exact Nat.le_refl _, by rw [St.put_mem]; exact Nat.le_refl _, hid⟩
    · split at h
      · split at h
        · cases h; exact ⟨St.put_live _ _ _ _, by rw [St.put_nv]; exact Nat.le_refl _, by rw [St.put_mem]; simp, hid⟩
        · cases h
      · split at h
        · split at h
          · cases h; exact ⟨St.put_live _ _ _ _, by rw [St.put_nv]; exact Nat.le_refl _, by rw [St.put_mem]; simp, hid⟩
          · cases h
        · cases h
      · split at h
        · split at h
          · rename_i hs
            cases h; exact ⟨St.put_live _ _ _ _, by rw [St.put_nv]; exact Nat.le_refl _, by rw [St.put_mem]; exact Nat.le_of_eq (storeE_length hs).symm, hid⟩
          · cases h
        · cases h
      · split at h
        · split at h
          · rename_i R' hR
            split at h
            · rename_i hu
              cases h
              obtain ⟨h1, h2⟩ := hu
              have hcall : st.nv ≤ R'.nv ∧ ∀ ρ, Agree st.nv ρ (R'.env.run ρ) := by
                unfold pureCall at hR
                split at hR
                · split at hR
                  · rename_i R2 hR2
                    split at hR
                    · cases hR; obtain ⟨k1, k2, k3, _⟩ := hc _ _ _ _ _ _ hR2; exact ⟨k1, k3⟩
                    · cases hR
                  · cases hR
                · cases hR
              have ha : ∀ ρ, Agree st.nv ρ ((evIte gc R'.env .id).run ρ) := fun ρ => by
                rw [evIte_run]; split
                · exact hcall.2 ρ
                · exact Agree.refl _ _
              simp only [St.upto, Bool.and_eq_true] at h1
              exact ⟨St.put_live _ _ _ _, by rw [St.put_nv]; exact hcall.1, by rw [St.put_mem]; exact Nat.le_refl _, ha, fun ρ => bev_agree (ha ρ) h1.2⟩
            · cases h
          · split at h
            · split at h
              · rename_i R' hR
                split at h
                · rename_i hu
                  cases h
                  obtain ⟨k1, k2, k3, _⟩ := hc _ _ _ _ _ _ hR
                  simp only [St.upto, Bool.and_eq_true] at hu
                  exact ⟨St.put_live _ _ _ _, by rw [St.put_nv]; exact k1, by rw [St.put_mem]; exact k2, k3, fun ρ => bev_agree (k3 ρ) hu.2⟩
                · cases h
              · cases h
            · cases h
        · cases h
      · cases h
end Go.Ex

namespace Go.Ex
open Go

section
variable {P : Program} {S : Nat → Prop} {w0 : World} {β : Nat → Nat} {ρ : Env} {st : St} {a : Act} {w : World} {call : Caller} {ops : List Oper} {o : Oper} {R : StepR} {K : Act → World → Prop} {Q : Exit → Act → World → Prop}

theorem run_inj {α : Type} {r : Result α} {x y : α} {w w' : World} (h : r = .ok x w) (k : r = .ok y w') : x = y ∧ w = w' := by rw [h] at k; cases k; exact ⟨rfl, rfl⟩

theorem RelA.put (hA : RelA S w0 β ρ st a w) (d : Option Tmp) (c : E) (v : TV) (x : Value) (hx : ∀ β', AgB st.mem.length β β' → x = if bev ρ c then v.ev β' ρ else undef) : RelA S w0 β ρ (st.put d c v) (a.put d x) w := by
  intro β' hβ
  rw [St.put_mem] at hβ
  exact (hA β' hβ).put d c v x (hx β' hβ)

/-- The frame as it was, memory and variables later. -/
theorem RelA.later {ρ' : Env} {β1 : Nat → Nat} {mem : Mem} {nv : Nat} {w' : World} (hA : RelA S w0 β ρ st a w) (hu : st.upto st.nv = true) (hg : Agree st.nv ρ ρ') (hb : AgB st.mem.length β β1) (hl : st.mem.length ≤ mem.length)
    (hm : MRelA S w0 β1 ρ' mem w') : RelA S w0 β1 ρ' { st with mem := mem, nv := nv } a w' := by
  intro β' hβ
  have h1 := (hA β' (hb.trans (hβ.mono hl))).agree hg hu
  exact ⟨hm β' hβ, h1.size, h1.defers, h1.tmp⟩

theorem Rel.below (hA : Rel S w0 β ρ st a w) {w' : World} (hb : RowKit.Below w.heap.size w w') : Rel S w0 β ρ st a w' := by
  refine ⟨⟨hA.rom, ?_, ?_, hA.own, hA.inj⟩, hA.size, hA.defers, hA.tmp⟩
  · have k := hA.keep
    exact ⟨hb.os.trans k.os, hb.tape.trans k.tape, hb.output.trans k.output, Nat.le_trans k.size hb.size, fun i hi hS => (hb.block i (Nat.lt_of_lt_of_le hi k.size)).trans (k.block i hi hS)⟩
  · intro b l T hm
    rw [hb.block (β b) (hA.toMRel.lt hm)]
    exact hA.blk b l T hm

theorem Rel.rom' (hA : Rel S w0 β ρ st a w) : ∀ (k : Nat) (o : Obj), ρ.w.heap[k]? = some o → w.heap[k]? = some o := by
  intro k o hk
  obtain ⟨h1, h2⟩ := hA.rom k o hk
  rw [hA.keep.block k (Array.getElem?_eq_some_iff.1 h2).1 h1, h2]

theorem wp_value {v : Value} (h : (execOp a.eval o).run P w = .ok (.value v) w) (hK : K (a.put o.dst v) w) : o.wp P a w K Q := by
  unfold Oper.wp; rw [h]; exact hK

theorem step_sound (hc : CallerOK P call) (h : step P call ops o st = some R) (hA : RelA S w0 β ρ st a w) (hl : bev ρ st.live = true) (hn : R.need.holds ρ)
    (hK : ∀ β' a' w', AgB st.mem.length β β' → RelA S w0 β' (R.env.run ρ) R.st a' w' → K a' w') :
    if Region.wanted o (yielded ops.toArray a.tmps) then o.wp P a w K Q else K (a.put o.dst undef) w := by
  unfold step at h
  split at h
  · cases h
  · rename_i hgc
    cases h
    rw [guard_sound hA.self hgc]
    rw [bev_ff, if_neg (by simp)]
    exact hK β _ _ (AgB.refl _ _) (hA.put _ _ _ _ fun _ _ => by simp [bev_ff])
  · rename_i gc hne hgc
    simp only at h
    rw [guard_sound hA.self hgc]
    split at h
    · rename_i n v hq
      cases h
      simp only [ndE_holds] at hn hK
      cases hg : bev ρ gc with
      | false => rw [if_neg (by simp)]; exact hK β _ _ (AgB.refl _ _) (hA.put _ _ _ _ fun _ _ => by simp [hg])
      | true =>
        rw [if_pos rfl]
        have hgg : bev ρ (mkAnd st.live gc) = true := by rw [bev_mkAnd, hl, hg]; rfl
        have e := quiet_sound hA.self hq hgg hn
        refine wp_value e (hK β _ _ (AgB.refl _ _) (hA.put _ _ _ _ fun β' hβ => ?_))
        have e' := quiet_sound (hA β' hβ) hq hgg hn
        have := (run_inj e e').1
        simp only [Next.value.injEq] at this
        rw [hg, if_pos rfl, this]
    · split at h
      · rename_i t hop
        split at h
        · rename_i z hz _
          cases h
          rw [bev_tt, if_pos rfl]
          have hrun : (execOp a.eval o).run P w = .ok (.value (.pointer (some ⟨w.heap.size, 0, none⟩))) (w.alloc (.cells z.cells t)) := by
            unfold execOp; rw [hop]
            simp only [Sem.run_bind, Instr.alloc, zeroT_run hz, Result.andThen_ok]
            rfl
          unfold Oper.wp; rw [hrun]
          refine hK (place β st.mem.length w.heap.size) _ _ (place_agB _ _ _) ?_
          refine RelA.put (st := { st with mem := st.mem ++ [some (z.cells.toList.map liftC, t)] }) ?_ _ _ _ _ ?_
          · intro β' hβ
            simp only [List.length_append, List.length_singleton] at hβ
            have h0 := hA β' ((place_agB β st.mem.length w.heap.size).trans (hβ.mono (by omega)))
            have h1 : β' st.mem.length = w.heap.size := by rw [hβ _ (by omega), place_self]
            have h2 := h0.toMRel.newBlk (l := z.cells.toList.map liftC) (T := t) h1
            rw [map_liftC] at h2
            exact ⟨h2, h0.size, h0.defers, h0.tmp⟩
          · intro β' hβ
            simp only [List.length_append, List.length_singleton] at hβ
            simp only [bev_tt, if_true, TV.ev, SV.ev, CV.ev, hβ _ (show st.mem.length < st.mem.length + 1 by omega), place_self]
        · cases h
      · rename_i t x hop
        split at h
        · rename_i n v hx _
          split at h
          · rename_i hcells
            cases h
            simp only [ndE_holds] at hn
            rw [bev_tt, if_pos rfl]
            have ex := opnd_sound hA.self hx hl hn
            have hrun : (execOp a.eval o).run P w = .ok (.value (.pointer (some ⟨w.heap.size, 0, none⟩))) (w.alloc (.cells (v.ev β ρ).cells t)) := by
              unfold execOp; rw [hop]
              simp only [Sem.run_bind, Instr.box, ex, TV.ev]
              rfl
            unfold Oper.wp; rw [hrun]
            refine hK (place β st.mem.length w.heap.size) _ _ (place_agB _ _ _) ?_
            refine RelA.put (st := { st with mem := st.mem ++ [some (v.cells, t)] }) ?_ _ _ _ _ ?_
            · intro β' hβ
              simp only [List.length_append, List.length_singleton] at hβ
              have hβ0 := (place_agB β st.mem.length w.heap.size).trans (hβ.mono (by omega))
              have h0 := hA β' hβ0
              have h1 : β' st.mem.length = w.heap.size := by rw [hβ _ (by omega), place_self]
              have h2 := h0.toMRel.newBlk (l := v.cells) (T := t) h1
              have ex' := opnd_sound h0 hx hl hn
              rw [ex] at ex'
              simp only [TV.ev] at ex'
              have e1 := SV.cells_ev (β := β') (ρ := ρ) v hcells
              rw [← ex'] at e1
              rw [← e1] at h2
              exact ⟨h2, h0.size, h0.defers, h0.tmp⟩
            · intro β' hβ
              simp only [List.length_append, List.length_singleton] at hβ
              simp only [bev_tt, if_true, TV.ev, SV.ev, CV.ev, hβ _ (show st.mem.length < st.mem.length + 1 by omega), place_self]
          · cases h
        · cases h
      · rename_i t p x hop
        split at h
        · rename_i n pv m v hp hx _
          split at h
          · rename_i k mem hs
            cases h
            rw [bev_tt, if_pos rfl]
            simp only [ndAnd_holds, ndE_holds] at hn
            obtain ⟨n1, n2, n3⟩ := hn
            have hk := bev_mkImp ρ _ _ n3 hl
            have ep : a.eval p = pv.ev β ρ := opnd_sound hA.self hp hl n1
            have ex : a.eval x = v.ev β ρ := opnd_sound hA.self hx hl n2
            obtain ⟨q, w', hq, hrun, hm⟩ := storeE_sound hA.self.toMRel hs hk
            have hrun' : (execOp a.eval o).run P w = .ok .skip w' := by
              unfold execOp; rw [hop]
              simp only [Sem.run_bind, Instr.storeAt, Instr.sureAddr, ep, ex, hq, Sem.run_pure, Result.andThen_ok, hrun]
            unfold Oper.wp; rw [hrun']
            refine hK β _ _ (AgB.refl _ _) (RelA.put (st := { st with mem := mem }) ?_ _ _ _ _ fun _ _ => by simp [bev_ff])
            intro β' hβ
            simp only [storeE_length hs] at hβ
            have h0 := hA β' hβ
            have ep' : a.eval p = pv.ev β' ρ := opnd_sound h0 hp hl n1
            have ex' : a.eval x = v.ev β' ρ := opnd_sound h0 hx hl n2
            obtain ⟨q', w2, hq', hr2, hm2⟩ := storeE_sound h0.toMRel hs hk
            rw [ep, hq] at ep'
            rw [hq'] at ep'
            simp only [Value.pointer.injEq, Option.some.injEq] at ep'
            rw [← ep'] at hr2
            rw [← ex', ex] at hr2
            have := (run_inj hrun hr2).2
            rw [this]
            exact ⟨hm2, h0.size, h0.defers, h0.tmp⟩
          · cases h
        · cases h
      · rename_i f args ats hop
        split at h
        · rename_i n vs hvs hent
          have henter : ∀ xs : List Value, args.toList.map a.eval = xs → (execOp a.eval o).run P w = .ok (.enter f xs.toArray) w := by
            intro xs hxs
            unfold execOp; rw [hop]
            have e1 : args.map a.eval = xs.toArray := by rw [← hxs]; obtain ⟨l⟩ := args; exact List.map_toArray
            simp only [Sem.run_bind, resolve, e1, Act.eval, Deferred.ofValue, Sem.run_pure, Result.andThen_ok, invoke]
            simpa using enterB_run (P := P) hent xs.toArray w
          split at h
          · rename_i R' hR
            split at h
            · rename_i hu
              cases h
              simp only [ndImp_holds, ndAnd_holds, ndE_holds, evIte_run, Ev.run] at hn hK
              cases hg : bev ρ gc with
              | false =>
                rw [if_neg (by simp)]
                have e : (if bev ρ gc = true then R'.env.run ρ else ρ) = ρ := by simp [hg]
                rw [e] at hK
                refine hK β _ _ (AgB.refl _ _) (RelA.put (st := { st with nv := R'.nv }) ?_ _ _ _ _ fun _ _ => by simp [hg])
                exact fun β' hβ => ⟨(hA β' hβ).toMRel, (hA β' hβ).size, (hA β' hβ).defers, (hA β' hβ).tmp⟩
              | true =>
                rw [if_pos rfl]
                obtain ⟨n1, n2⟩ := hn hg
                have hgg : bev ρ (mkAnd st.live gc) = true := by rw [bev_mkAnd, hl, hg]; rfl
                have hxs := opnds_sound hA.self hgg _ _ _ hvs n1
                obtain ⟨k1, k2, k3⟩ := pureCall_sound hc hR (β := β) hA.self.rom' rfl n2
                unfold Oper.wp
                rw [henter _ hxs]
                refine k3.mono fun e w' ⟨he, hb⟩ => ?_
                subst he
                have e : (if bev ρ gc = true then R'.env.run ρ else ρ) = R'.env.run ρ := by simp [hg]
                rw [e] at hK
                have hgc' : bev (R'.env.run ρ) gc = true := by rw [bev_agree (k2 ρ) hu.2]; exact hg
                refine hK β _ _ (AgB.refl _ _) (RelA.put (st := { st with nv := R'.nv }) ?_ _ _ _ _ fun β' hβ => ?_)
                · intro β' hβ
                  have h0 := ((hA β' hβ).below hb).agree (k2 ρ) hu.1
                  exact ⟨h0.toMRel, h0.size, h0.defers, h0.tmp⟩
                · rw [if_pos hgc']
                  have hp : R'.r.noPtr = true := by
                    unfold pureCall at hR
                    split at hR
                    · split at hR
                      · split at hR
                        · cases hR; assumption
                        · cases hR
                      · cases hR
                    · cases hR
                  exact TV.noPtr_ev _ hp
            · cases h
          · split at h
            · split at h
              · rename_i R' hR
                split at h
                · rename_i hu
                  cases h
                  rw [bev_tt, if_pos rfl]
                  simp only [ndAnd_holds, ndE_holds] at hn
                  obtain ⟨n1, n2⟩ := hn
                  have hgg : bev ρ (mkAnd st.live .tt) = true := by rw [bev_mkAnd, hl]; rfl
                  have hxs := opnds_sound hA.self hgg _ _ _ hvs n1
                  obtain ⟨k1, k2, k3, k4⟩ := hc _ _ _ _ _ _ hR
                  unfold Oper.wp
                  rw [henter _ hxs]
                  refine (k4 S w0 β ρ w (vs.map (TV.ev β ρ)) hA.mem rfl n2 (fun β' hβ => by
                    rw [← opnds_sound (hA β' hβ) hgg _ _ _ hvs n1, hxs])).mono fun e w' ⟨β1, x, hb, hm, he, hx⟩ => ?_
                  subst he
                  refine hK β1 _ _ hb (RelA.put (st := { st with mem := R'.mem, nv := R'.nv }) (hA.later hu (k3 ρ) hb k2 hm) _ _ _ _ fun β' hβ => ?_)
                  rw [bev_tt, if_pos rfl]; exact (hx β' hβ).symm
                · cases h
              · cases h
            · cases h
        · cases h
      · cases h
end
end Go.Ex

namespace Go.Ex
open Go

def runOps (P : Program) (call : Caller) (ops : List Oper) : List Oper → St → Option StepR
  | [], st => some ⟨st, .tt, .id⟩
  | o :: l, st => match step P call ops o st with
    | some R => match runOps P call ops l R.st with
      | some R2 => some ⟨R2.st, ndAnd R.need (ndAt R.env R2.need), evSeq R.env R2.env⟩
      | none => none
    | none => none

section
variable {P : Program} {S : Nat → Prop} {w0 : World} {call : Caller} {ops : List Oper} {Q : Exit → Act → World → Prop}

structure Facts1 (st : St) (R : StepR) : Prop where
  live : R.st.live = st.live
  nv : st.nv ≤ R.st.nv
  mem : st.mem.length ≤ R.st.mem.length
  agree : ∀ ρ, Agree st.nv ρ (R.env.run ρ)
  same : ∀ ρ, bev (R.env.run ρ) st.live = bev ρ st.live

theorem Facts1.trans {st : St} {R R2 : StepR} (h : Facts1 st R) (k : Facts1 R.st R2) {N : Nd} : Facts1 st ⟨R2.st, N, evSeq R.env R2.env⟩ :=
  ⟨k.live.trans h.live, Nat.le_trans h.nv k.nv, Nat.le_trans h.mem k.mem, fun ρ => by rw [evSeq_run]; exact (h.agree ρ).trans ((k.agree _).mono h.nv), fun ρ => by rw [evSeq_run, ← h.live, k.same, h.live, h.same]⟩

theorem runOps_facts (hc : CallerOK P call) : ∀ (l : List Oper) (st : St) (R : StepR), runOps P call ops l st = some R → Facts1 st R
  | [], st, R, h => by cases h; exact ⟨rfl, Nat.le_refl _, Nat.le_refl _, fun ρ => Agree.refl _ _, fun _ => rfl⟩
  | o :: l, st, R, h => by
    simp only [runOps] at h
    split at h
    · rename_i R1 h1
      split at h
      · rename_i R2 h2
        cases h
        obtain ⟨a1, a2, a3, a4, a5⟩ := step_facts hc h1
        exact Facts1.trans ⟨a1, a2, a3, a4, a5⟩ (runOps_facts hc l _ _ h2)
      · cases h
    · cases h

theorem runOps_sound (hc : CallerOK P call) : ∀ (l : List Oper) (st : St) (R : StepR) (β : Nat → Nat) (ρ : Env) (a : Act) (w : World), runOps P call ops l st = some R →
    RelA S w0 β ρ st a w → bev ρ st.live = true → R.need.holds ρ →
    (∀ β' a' w', AgB st.mem.length β β' → RelA S w0 β' (R.env.run ρ) R.st a' w' → Q .normal a' w') → wpList P ops.toArray Q l a w
  | [], st, R, β, ρ, a, w, h, hA, _, _, hQ => by cases h; exact hQ β a w (AgB.refl _ _) hA
  | o :: l, st, R, β, ρ, a, w, h, hA, hl, hn, hQ => by
    simp only [runOps] at h
    split at h
    · rename_i R1 h1
      split at h
      · rename_i R2 h2
        cases h
        simp only [ndAnd_holds, ndAt_holds, evSeq_run] at hn hQ
        obtain ⟨a1, a2, a3, a4, a5⟩ := step_facts hc h1
        refine wpList_step fun K hK => step_sound hc h1 hA hl hn.1 fun β' a' w' hb hA' => hK _ _ ?_
        exact runOps_sound hc l _ _ β' _ a' w' h2 hA' (by rw [a1, a5]; exact hl) hn.2 fun β2 a2 w2 hb2 hA2 => hQ β2 a2 w2 (hb.trans (hb2.mono a3)) hA2
      · cases h
    · cases h

/-! ### Any order -/
structure Al where
  i : Nat
  d : Tmp
  l : List CV
  T : TypeId
structure FlowR where
  st : St
  al : List Al
  need : Nd
  env : Ev

def St.hide (st : St) (d : Tmp) : St := { st with tmps := st.tmps.set d none }

def flowStep (P : Program) (call : Caller) (ops : List Oper) (i : Nat) (o : Oper) (st : St) (al : List Al) : Option FlowR :=
  match guardE ops st o with
  | none => none
  | some .ff => some ⟨st.put o.dst .ff dummy, al, .tt, .id⟩
  | some gc =>
    let g := mkAnd st.live gc
    match quiet P st g o.op with
    | some (n, v) => some ⟨st.put o.dst gc v, al, ndImp gc (ndE n), .id⟩
    | none => match o.op with
      | .alloc t => match gc, zeroT P t, o.dst with
        | .tt, some z, some d => if (al.all fun x => x.d != d) = true then some ⟨st.hide d, al ++ [⟨i, d, z.cells.toList.map liftC, t⟩], .tt, .id⟩ else none
        | _, _, _ => none
      | .box t x => match gc, opnd st st.live x, o.dst with
        | .tt, some (n, .sv v), some d => if v.cells.all CV.cellB = true ∧ (al.all fun x => x.d != d) = true then some ⟨st.hide d, al ++ [⟨i, d, v.cells, t⟩], ndE n, .id⟩ else none
        | _, _, _ => none
      | .call { callee := .value (.func f), args, argTypes := _ } => match opnds st g args.toList, enterB P f with
        | some (n, vs), true => match pureCall call f vs .tt st.nv with
          | some R => if st.upto st.nv = true ∧ gc.upto st.nv = true ∧ (al.all fun x => x.l.all (·.upto st.nv)) = true then
              some ⟨({ st with nv := R.nv } : St).put o.dst gc R.r, al, ndImp gc (ndAnd (ndE n) R.need), evIte gc R.env .id⟩ else none
          | none => none
        | _, _ => none
      | _ => none

def flowOps (P : Program) (call : Caller) (ops : List Oper) : List Oper → Nat → St → List Al → Option FlowR
  | [], _, st, al => some ⟨st, al, .tt, .id⟩
  | o :: l, i, st, al => match flowStep P call ops i o st al with
    | some R => match flowOps P call ops l (i + 1) R.st R.al with
      | some R2 => some ⟨R2.st, R2.al, ndAnd R.need (ndAt R.env R2.need), evSeq R.env R2.env⟩
      | none => none
    | none => none

open Flow in
/-- What holds on the way. -/
structure FInv (S : Nat → Prop) (w0 W : World) (β : Nat → Nat) (ρ : Env) (st : St) (al : List Al) (i : Nat) (Ts : List (Nat × Kind)) (A : Vals → Act) : Prop where
  rel : ∀ x w', Grow W w' → RelA S w0 β ρ st (A x) w'
  slot : ∀ x, ∀ e ∈ al, st.tmps[e.d]? = some none → (A x).tmps[e.d]? = some (x e.i).val
  fact : ∀ e ∈ al, (e.i, Kind.new (AllocFact e.i (e.l.map (CV.ev β ρ)).toArray e.T)) ∈ Ts
  cells : ∀ e ∈ al, ∀ β', AgB st.mem.length β β' → e.l.map (CV.ev β' ρ) = e.l.map (CV.ev β ρ)
  lt : ∀ e ∈ al, e.i < i
  nd : (al.map (·.i)).Nodup

open Flow in
theorem FInv.put {W : World} {β : Nat → Nat} {ρ : Env} {st : St} {al : List Al} {i : Nat} {Ts : List (Nat × Kind)} {A : Vals → Act} (h : FInv S w0 W β ρ st al i Ts A) (d : Option Tmp) (c : E) (v : TV) (y : Value) (k : Kind)
    (hy : ∀ β', AgB st.mem.length β β' → y = if bev ρ c then v.ev β' ρ else undef) : FInv S w0 W β ρ (st.put d c v) al (i + 1) (Ts ++ [(i, k)]) (fun x => (A x).put d y) := by
  refine ⟨fun x w' hw => (h.rel x w' hw).put d c v y hy, ?_, fun e he => List.mem_append_left _ (h.fact e he), ?_, fun e he => Nat.lt_succ_of_lt (h.lt e he), h.nd⟩
  · intro x e he hs
    cases d with
    | none => exact h.slot x e he hs
    | some d =>
      simp only [St.put] at hs
      by_cases hd : d = e.d
      · subst hd
        rw [List.getElem?_set] at hs
        split at hs
        · split at hs <;> cases hs
        · exact absurd rfl ‹_›
      · rw [List.getElem?_set_ne hd] at hs
        simp only [Act.put]
        rw [Array.getElem?_setIfInBounds_ne hd]
        exact h.slot x e he hs
  · intro e he β' hβ
    rw [St.put_mem] at hβ
    exact h.cells e he β' hβ

open Flow in
theorem FInv.agree {W : World} {β : Nat → Nat} {ρ ρ' : Env} {st : St} {al : List Al} {i : Nat} {Ts : List (Nat × Kind)} {A : Vals → Act} (h : FInv S w0 W β ρ st al i Ts A) (hu : st.upto st.nv = true) (ha : (al.all fun x => x.l.all (·.upto st.nv)) = true) (hg : Agree st.nv ρ ρ') {nv : Nat} :
    FInv S w0 W β ρ' { st with nv := nv } al i Ts A := by
  rw [List.all_eq_true] at ha
  have e0 : ∀ e ∈ al, ∀ β, e.l.map (CV.ev β ρ') = e.l.map (CV.ev β ρ) := fun e he β => CV.agreeL hg e.l (ha e he)
  refine ⟨fun x w' hw β' hβ => ?_, h.slot, fun e he => by rw [e0 e he]; exact h.fact e he, fun e he β' hβ => by rw [e0 e he, e0 e he]; exact h.cells e he β' hβ, h.lt, h.nd⟩
  have h0 := (h.rel x w' hw β' hβ).agree hg hu
  exact ⟨h0.toMRel, h0.size, h0.defers, h0.tmp⟩

open Flow in
theorem FInv.alloc {W : World} {β : Nat → Nat} {ρ : Env} {st : St} {al : List Al} {i : Nat} {Ts : List (Nat × Kind)} {A : Vals → Act} (h : FInv S w0 W β ρ st al i Ts A) (d : Tmp) (l : List CV) (T : TypeId) (hd : (al.all fun x => x.d != d) = true)
    (hl : ∀ β', AgB st.mem.length β β' → l.map (CV.ev β' ρ) = l.map (CV.ev β ρ)) :
    FInv S w0 W β ρ (st.hide d) (al ++ [⟨i, d, l, T⟩]) (i + 1) (Ts ++ [(i, Kind.new (AllocFact i (l.map (CV.ev β ρ)).toArray T))]) (fun x => (A x).put (some d) (x i).val) := by
  rw [List.all_eq_true] at hd
  refine ⟨?_, ?_, ?_, ?_, ?_, ?_⟩
  · intro x w' hw β' hβ
    have h0 := h.rel x w' hw β' hβ
    refine ⟨h0.toMRel, ?_, h0.defers, ?_⟩
    · simp [Act.put, St.hide, h0.size]
    · intro t s hs
      simp only [St.hide] at hs
      by_cases he : d = t
      · subst he
        rw [List.getElem?_set] at hs
        split at hs
        · split at hs <;> cases hs
        · exact absurd rfl ‹_›
      · rw [List.getElem?_set_ne he] at hs
        simp only [Act.put]
        rw [Array.getElem?_setIfInBounds_ne he]
        exact h0.tmp t s hs
  · intro x e he hs
    simp only [St.hide] at hs
    rcases List.mem_append.1 he with he | he
    · have hne : d ≠ e.d := by have := hd e he; simp at this; exact fun h => this h.symm
      rw [List.getElem?_set_ne hne] at hs
      simp only [Act.put]
      rw [Array.getElem?_setIfInBounds_ne hne]
      exact h.slot x e he hs
    · simp only [List.mem_singleton] at he
      subst he
      simp only at hs ⊢
      have hlt : d < st.tmps.length := by
        have := (List.getElem?_eq_some_iff.1 hs).1
        simpa using this
      simp only [Act.put]
      rw [Array.getElem?_setIfInBounds_self_of_lt (by rw [(h.rel x W (Grow.refl W)).self.size]; exact hlt)]
  · intro e he
    rcases List.mem_append.1 he with he | he
    · exact List.mem_append_left _ (h.fact e he)
    · simp only [List.mem_singleton] at he; subst he; simp
  · intro e he β' hβ
    rcases List.mem_append.1 he with he | he
    · exact h.cells e he β' hβ
    · simp only [List.mem_singleton] at he; subst he; exact hl β' hβ
  · intro e he
    rcases List.mem_append.1 he with he | he
    · exact Nat.lt_succ_of_lt (h.lt e he)
    · simp only [List.mem_singleton] at he; subst he; exact Nat.lt_succ_self _
  · rw [List.map_append, List.nodup_append]
    refine ⟨h.nd, by simp, ?_⟩
    intro a ha b hb
    simp only [List.map_cons, List.map_nil, List.mem_singleton] at hb
    obtain ⟨e, he, rfl⟩ := List.mem_map.1 ha
    have := h.lt e he
    omega

theorem flowStep_facts (hc : CallerOK P call) {i : Nat} {o : Oper} {st : St} {al : List Al} {R : FlowR} (h : flowStep P call ops i o st al = some R) :
    R.st.live = st.live ∧ st.nv ≤ R.st.nv ∧ R.st.mem = st.mem ∧ (∀ ρ, Agree st.nv ρ (R.env.run ρ)) ∧ (∀ ρ, bev (R.env.run ρ) st.live = bev ρ st.live) := by
  have hid : (∀ ρ : Env, Agree st.nv ρ (Ev.id.run ρ)) ∧ (∀ ρ : Env, bev (Ev.id.run ρ) st.live = bev ρ st.live) := ⟨fun ρ => Agree.refl _ _, fun _ => rfl⟩
  unfold flowStep at h
  split at h
  · cases h
  · cases h; exact ⟨St.put_live _ _ _ _, by rw [St.put_nv]; exact Nat.le_refl _, St.put_mem _ _ _ _, hid⟩
  · simp only at h
    split at h
    · cases h; exact ⟨St.put_live _ _ _ _, by rw [St.put_nv]; exact Nat.le_refl _, St.put_mem _ _ _ _, hid⟩
    · split at h
      · split at h
        · split at h
          · cases h; exact ⟨rfl, Nat.le_refl _, rfl, hid⟩
          · cases h
        · cases h
      · split at h
        · split at h
          · cases h; exact ⟨rfl, Nat.le_refl _, rfl, hid⟩
          · cases h
        · cases h
      · split at h
        · split at h
          · rename_i gc _ _ _ _ _ _ _ _ _ R' hR
            split at h
            · rename_i hu
              cases h
              have hcall : st.nv ≤ R'.nv ∧ ∀ ρ, Agree st.nv ρ (R'.env.run ρ) := by
                unfold pureCall at hR
                split at hR
                · split at hR
                  · rename_i R2 hR2
                    split at hR
                    · cases hR; obtain ⟨k1, k2, k3, _⟩ := hc _ _ _ _ _ _ hR2; exact ⟨k1, k3⟩
                    · cases hR
                  · cases hR
                · cases hR
              obtain ⟨h1, h2, h3⟩ := hu
              simp only [St.upto, Bool.and_eq_true] at h1
              refine ⟨St.put_live _ _ _ _, by rw [St.put_nv]; exact hcall.1, St.put_mem _ _ _ _, fun ρ => ?_, fun ρ => ?_⟩
              · simp only [evIte_run]; split
                · exact hcall.2 ρ
                · exact Agree.refl _ _
              · simp only [evIte_run]; split
                · exact bev_agree (hcall.2 ρ) h1.2
                · rfl
            · cases h
          · cases h
        · cases h
      · cases h
end
end Go.Ex

namespace Go.Ex
open Go Flow

section
variable {P : Program} {S : Nat → Prop} {w0 W : World} {call : Caller} {ops : List Oper} {Q : Exit → Act → World → Prop}

theorem MRel.addBlk {β : Nat → Nat} {ρ : Env} {mem : Mem} {w : World} (h : MRel S w0 β ρ mem w) {l : List CV} {T : TypeId} {p : Nat} (hβ : β mem.length = p) (hp : w.heap[p]? = some (.cells (l.map (CV.ev β ρ)).toArray T (0, 0)))
    (hown : w0.heap.size ≤ p) (hne : ∀ (b : Nat) y, mem[b]? = some (some y) → β b ≠ p) : MRel S w0 β ρ (mem ++ [some (l, T)]) w := by
  have key : ∀ (c : Nat) x, (mem ++ [some (l, T)])[c]? = some (some x) → (mem[c]? = some (some x)) ∨ (c = mem.length ∧ x = (l, T)) := by
    intro c x hx
    rw [List.getElem?_append] at hx
    split at hx
    · exact Or.inl hx
    · rename_i hc
      have : c - mem.length = 0 := by
        rcases Nat.eq_zero_or_pos (c - mem.length) with h0 | h0
        · exact h0
        · rw [List.getElem?_eq_none (by simp; omega)] at hx; cases hx
      rw [this] at hx
      simp only [List.getElem?_cons_zero, Option.some.injEq] at hx
      exact Or.inr ⟨by omega, hx.symm⟩
  refine ⟨h.rom, h.keep, ?_, ?_, ?_⟩
  · intro b m U hb
    rcases key b _ hb with hb | ⟨rfl, e⟩
    · exact h.blk b m U hb
    · cases e; rw [hβ]; exact hp
  · intro b x hb
    rcases key b _ hb with hb | ⟨rfl, e⟩
    · exact h.own b x hb
    · right; rw [hβ]; exact hown
  · intro b c x y hb hc e
    rcases key b _ hb with hb | ⟨rfl, _⟩ <;> rcases key c _ hc with hc | ⟨rfl, _⟩
    · exact h.inj b c x y hb hc e
    · exact absurd (e.trans hβ) (hne b _ hb)
    · exact absurd (e.symm.trans hβ) (hne c _ hc)
    · rfl

def finish1 (st : St) (e : Al) : St :=
  { st with tmps := match st.tmps[e.d]? with | some none => st.tmps.set e.d (some ⟨.tt, .sv (.one (.ptr st.mem.length 0))⟩) | _ => st.tmps, mem := st.mem ++ [some (e.l, e.T)] }
def finish : St → List Al → St
  | st, [] => st
  | st, e :: al => finish (finish1 st e) al

theorem finish_sound {ρ : Env} {a : Act} {w : World} {lo : Nat → Nat} : ∀ (al : List Al) (st : St) (β : Nat → Nat), RelA S w0 β ρ st a w →
    (∀ e ∈ al, ∀ β', AgB st.mem.length β β' → w.heap[lo e.i]? = some (.cells (e.l.map (CV.ev β' ρ)).toArray e.T (0, 0))) → (∀ e ∈ al, w0.heap.size ≤ lo e.i) →
    (∀ e ∈ al, ∀ (b : Nat) y, st.mem[b]? = some (some y) → β b ≠ lo e.i) → (al.map fun e => lo e.i).Nodup →
    (∀ e ∈ al, st.tmps[e.d]? = some none → a.tmps[e.d]? = some (.pointer (some ⟨lo e.i, 0, none⟩))) →
    ∃ β1, AgB st.mem.length β β1 ∧ RelA S w0 β1 ρ (finish st al) a w
  | [], st, β, hA, _, _, _, _, _ => ⟨β, AgB.refl _ _, hA⟩
  | e :: al, st, β, hA, h1, h2, h3, h4, h5 => by
    have hml : (finish1 st e).mem.length = st.mem.length + 1 := by simp [finish1]
    have hsplit : ∀ (b : Nat) y, (finish1 st e).mem[b]? = some (some y) → b < st.mem.length ∧ st.mem[b]? = some (some y) ∨ b = st.mem.length := by
      intro b y hb
      simp only [finish1] at hb
      have hlt := (List.getElem?_eq_some_iff.1 hb).1
      simp only [List.length_append, List.length_singleton] at hlt
      rw [List.getElem?_append] at hb
      split at hb
      · rename_i hc; exact Or.inl ⟨hc, hb⟩
      · right; omega
    simp only [List.map_cons, List.nodup_cons, List.mem_map, not_exists, not_and] at h4
    have hA1 : RelA S w0 (place β st.mem.length (lo e.i)) ρ (finish1 st e) a w := by
      intro β' hβ
      rw [hml] at hβ
      have hβ0 : AgB st.mem.length β β' := (place_agB β st.mem.length (lo e.i)).trans (hβ.mono (by omega))
      have hpl : β' st.mem.length = lo e.i := by rw [hβ _ (by omega), place_self]
      have h0 := hA β' hβ0
      refine ⟨h0.toMRel.addBlk hpl (h1 e (by simp) β' hβ0) (h2 e (by simp)) (fun b y hb => ?_), ?_, h0.defers, ?_⟩
      · rw [hβ0 b (List.getElem?_eq_some_iff.1 hb).1]; exact h3 e (by simp) b y hb
      · simp only [finish1]; split <;> simp [h0.size]
      · intro t s hs
        simp only [finish1] at hs
        split at hs
        · rename_i hd
          by_cases he : e.d = t
          · subst he
            rw [List.getElem?_set_self (List.getElem?_eq_some_iff.1 hd).1] at hs
            simp only [Option.some.injEq] at hs
            subst hs
            rw [h5 e (by simp) hd, bev_tt, if_pos rfl]
            simp only [TV.ev, SV.ev, CV.ev, hpl]
          · rw [List.getElem?_set_ne he] at hs
            exact h0.tmp t s hs
        · exact h0.tmp t s hs
    obtain ⟨β1, hb1, hr1⟩ := finish_sound al (finish1 st e) (place β st.mem.length (lo e.i)) hA1
      (fun f hf β' hβ => by rw [hml] at hβ; exact h1 f (List.mem_cons_of_mem _ hf) β' ((place_agB β st.mem.length (lo e.i)).trans (hβ.mono (by omega))))
      (fun f hf => h2 f (List.mem_cons_of_mem _ hf))
      (fun f hf b y hb => by
        rcases hsplit b y hb with ⟨hlt, hb'⟩ | rfl
        · rw [place_agB β st.mem.length (lo e.i) b hlt]; exact h3 f (List.mem_cons_of_mem _ hf) b y hb'
        · rw [place_self]; exact fun hh => h4.1 f hf hh.symm)
      h4.2
      (fun f hf hs => by
        refine h5 f (List.mem_cons_of_mem _ hf) ?_
        simp only [finish1] at hs
        split at hs
        · by_cases he : e.d = f.d
          · rename_i hd
            rw [← he, List.getElem?_set_self (List.getElem?_eq_some_iff.1 hd).1] at hs; cases hs
          · rw [List.getElem?_set_ne he] at hs; exact hs
        · exact hs)
    rw [hml] at hb1
    exact ⟨β1, (place_agB β st.mem.length (lo e.i)).trans (hb1.mono (by omega)), hr1⟩

theorem factsOf_mem {M : Array Nat} {x : Vals} {w : World} {j : Nat} {T : Fact} : ∀ (Ts : List (Nat × Kind)), FactsOf M Ts x w → (j, Kind.new T) ∈ Ts → T (mask M j x) w
  | [], _, hm => by cases hm
  | (k, .new U) :: Ts, h, hm => by
    rcases List.mem_cons.1 hm with e | hm
    · cases e; exact h.1
    · exact factsOf_mem Ts h.2 hm
  | (k, .const v) :: Ts, h, hm => by
    rcases List.mem_cons.1 hm with e | hm
    · cases e
    · exact factsOf_mem Ts h hm
  | (k, .skip) :: Ts, h, hm => by
    rcases List.mem_cons.1 hm with e | hm
    · cases e
    · exact factsOf_mem Ts h hm

theorem keep_below {w w' : World} (h : Grow w w') : RowKit.Below w.heap.size w w' := h

theorem flowStep_sound (hc : CallerOK P call) {i : Nat} {o : Oper} {st : St} {al : List Al} {R : FlowR} (h : flowStep P call ops i o st al = some R) {β : Nat → Nat} {ρ : Env} {M : Array Nat} {Ts : List (Nat × Kind)} {A : Vals → Act}
    {Fin : List (Nat × Kind) → (Vals → Act) → Prop} {l : List Oper} (HI : FInv S w0 W β ρ st al i Ts A) (hl : bev ρ st.live = true) (hn : R.need.holds ρ)
    (hk : ∀ k A', FInv S w0 W β (R.env.run ρ) R.st R.al (i + 1) (Ts ++ [(i, k)]) A' → wpFlowL P ops.toArray M W Fin l (i + 1) (Ts ++ [(i, k)]) A') :
    wpFlowL P ops.toArray M W Fin (o :: l) i Ts A := by
  unfold flowStep at h
  have hwant : ∀ {gc : E}, guardE ops st o = some gc → ∀ x, Region.wanted o (yielded ops.toArray (A x).tmps) = bev ρ gc := fun hg x => guard_sound (HI.rel x W (Grow.refl W)).self hg
  split at h
  · cases h
  · rename_i hgc
    cases h
    exact flow_skip (fun x => by rw [hwant hgc x]; rfl) (hk _ _ (HI.put _ _ _ _ _ fun _ _ => by simp [bev_ff]))
  · rename_i gc hne hgc
    simp only at h
    split at h
    · rename_i n v hq
      cases h
      simp only [ndImp_holds, ndE_holds] at hn hk
      cases hg : bev ρ gc with
      | false => exact flow_skip (fun x => by rw [hwant hgc x, hg]) (hk _ _ (HI.put _ _ _ _ _ fun _ _ => by simp [hg]))
      | true =>
        have hgg : bev ρ (mkAnd st.live gc) = true := by rw [bev_mkAnd, hl, hg]; rfl
        refine flow_const (v := v.ev β ρ) (fun x w' hw _ => ⟨by rw [hwant hgc x, hg], ?_⟩) (hk _ _ (HI.put _ _ _ _ _ fun β' hβ => ?_))
        · unfold newAt
          rw [quiet_sound (HI.rel x w' hw).self hq hgg (hn hg)]
          exact ⟨Grow.refl _, rfl⟩
        · rw [if_pos hg]
          have e1 := quiet_sound (HI.rel (fun _ => ⟨undef, 0, 0⟩) W (Grow.refl W)).self hq hgg (hn hg)
          have e2 := quiet_sound (HI.rel (fun _ => ⟨undef, 0, 0⟩) W (Grow.refl W) β' hβ) hq hgg (hn hg)
          have := (run_inj e1 e2).1
          simpa only [Next.value.injEq] using this
    · split at h
      · rename_i t hop
        split at h
        · rename_i z d hz hd _
          split at h
          · rename_i hal
            cases h
            have e0 : (List.map (CV.ev β ρ) (z.cells.toList.map liftC)).toArray = z.cells := by rw [map_liftC]
            refine flow_alloc (cs := z.cells) (T := t) (fun x w' hw _ => ⟨by rw [hwant hgc x]; rfl, ?_⟩) ?_
            · unfold newAt
              have hrun : (execOp (A x).eval o).run P w' = .ok (.value (.pointer (some ⟨w'.heap.size, 0, none⟩))) (w'.alloc (.cells z.cells t)) := by
                unfold execOp; rw [hop]
                simp only [Sem.run_bind, Instr.alloc, zeroT_run hz, Result.andThen_ok]
                rfl
              rw [hrun]
              exact ⟨Grow.alloc _ _, rfl, rfl, rfl, rfl⟩
            · have := HI.alloc d (z.cells.toList.map liftC) t hal (fun β' _ => by rw [map_liftC, map_liftC])
              rw [e0] at this
              rw [hd]
              exact hk _ _ this
          · cases h
        · cases h
      · rename_i t x0 hop
        split at h
        · rename_i n v d hx hd _
          split at h
          · rename_i hcl
            cases h
            simp only [ndE_holds] at hn
            obtain ⟨hcells, hal⟩ := hcl
            have hcs : ∀ x w' β', Grow W w' → AgB st.mem.length β β' → ((A x).eval x0).cells.toList = v.cells.map (CV.ev β' ρ) := fun x w' β' hw hβ => by
              have ex := opnd_sound (HI.rel x w' hw β' hβ) hx hl hn
              rw [ex]; exact SV.cells_ev v hcells
            refine flow_alloc (cs := (v.cells.map (CV.ev β ρ)).toArray) (T := t) (fun x w' hw _ => ⟨by rw [hwant hgc x]; rfl, ?_⟩) ?_
            · unfold newAt
              have hrun : (execOp (A x).eval o).run P w' = .ok (.value (.pointer (some ⟨w'.heap.size, 0, none⟩))) (w'.alloc (.cells (v.cells.map (CV.ev β ρ)).toArray t)) := by
                unfold execOp; rw [hop]
                rw [← hcs x w' β hw (AgB.refl _ _)]
                simp only [Sem.run_bind, Instr.box]
                rfl
              rw [hrun]
              exact ⟨Grow.alloc _ _, rfl, rfl, rfl, rfl⟩
            · rw [hd]
              exact hk _ _ (HI.alloc d v.cells t hal (fun β' hβ => by
                rw [← hcs (fun _ => ⟨undef, 0, 0⟩) W β' (Grow.refl W) hβ, ← hcs (fun _ => ⟨undef, 0, 0⟩) W β (Grow.refl W) (AgB.refl _ _)]))
          · cases h
        · cases h
      · rename_i f args ats hop
        split at h
        · rename_i n vs hvs hent
          split at h
          · rename_i R' hR
            split at h
            · rename_i hu
              cases h
              simp only [ndImp_holds, ndAnd_holds, ndE_holds, evIte_run, Ev.run] at hn hk
              cases hg : bev ρ gc with
              | false =>
                have e : (if bev ρ gc = true then R'.env.run ρ else ρ) = ρ := by simp [hg]
                rw [e] at hk
                refine flow_skip (fun x => by rw [hwant hgc x, hg]) (hk _ _ ?_)
                have := HI.put o.dst gc R'.r undef .skip (fun _ _ => by simp [hg])
                refine ⟨fun x w' hw β' hβ => ?_, ?_, this.fact, ?_, this.lt, this.nd⟩
                · rw [St.put_mem] at hβ
                  have h0 := HI.rel x w' hw β' hβ
                  exact Rel.put (st := { st with nv := R'.nv }) ⟨h0.toMRel, h0.size, h0.defers, h0.tmp⟩ _ _ _ _ (by simp [hg])
                · intro x e he hs
                  refine this.slot x e he ?_
                  cases hd : o.dst with
                  | none => rw [hd] at hs; exact hs
                  | some d => rw [hd] at hs; exact hs
                · intro e he β' hβ
                  rw [St.put_mem] at hβ
                  exact HI.cells e he β' hβ
              | true =>
                obtain ⟨n1, n2⟩ := hn hg
                have hgg : bev ρ (mkAnd st.live gc) = true := by rw [bev_mkAnd, hl, hg]; rfl
                have e : (if bev ρ gc = true then R'.env.run ρ else ρ) = R'.env.run ρ := by simp [hg]
                rw [e] at hk
                have hp : R'.r.noPtr = true := by
                  unfold pureCall at hR
                  split at hR
                  · split at hR
                    · split at hR
                      · cases hR; assumption
                      · cases hR
                    · cases hR
                  · cases hR
                obtain ⟨_, k2, _⟩ := pureCall_sound hc hR (β := β) (HI.rel (fun _ => ⟨undef, 0, 0⟩) W (Grow.refl W)).self.rom' rfl n2
                have hgc' : bev (R'.env.run ρ) gc = true := by rw [bev_agree (k2 ρ) hu.2.1]; exact hg
                refine flow_const (v := R'.r.ev β (R'.env.run ρ)) (fun x w' hw _ => ⟨by rw [hwant hgc x, hg], ?_⟩) (hk _ _ ?_)
                · have hr := HI.rel x w' hw
                  have hxs := opnds_sound hr.self hgg _ _ _ hvs n1
                  obtain ⟨k1, k2, k3⟩ := pureCall_sound hc hR (β := β) hr.self.rom' rfl n2
                  have henter : (execOp (A x).eval o).run P w' = .ok (.enter f (vs.map (TV.ev β ρ)).toArray) w' := by
                    unfold execOp; rw [hop]
                    have e1 : args.map (A x).eval = (vs.map (TV.ev β ρ)).toArray := by rw [← hxs]; obtain ⟨l⟩ := args; exact List.map_toArray
                    simp only [Sem.run_bind, resolve, e1, Act.eval, Deferred.ofValue, Sem.run_pure, Result.andThen_ok, invoke]
                    simpa using enterB_run (P := P) hent (vs.map (TV.ev β ρ)).toArray w'
                  unfold newAt
                  rw [henter]
                  exact ⟨Grow.refl _, k3.mono fun e w2 ⟨he, hb⟩ => ⟨_, he, hb, rfl⟩⟩
                · exact (HI.agree hu.1 hu.2.2 (k2 ρ) (nv := R'.nv)).put o.dst gc R'.r _ _ (fun β' hβ => by rw [if_pos hgc']; exact TV.noPtr_ev _ hp)
            · cases h
          · cases h
        · cases h
      · cases h

structure FlowFacts (st : St) (R : FlowR) : Prop where
  live : R.st.live = st.live
  nv : st.nv ≤ R.st.nv
  mem : R.st.mem = st.mem
  agree : ∀ ρ, Agree st.nv ρ (R.env.run ρ)
  same : ∀ ρ, bev (R.env.run ρ) st.live = bev ρ st.live

theorem flowOps_facts (hc : CallerOK P call) : ∀ (l : List Oper) (i : Nat) (st : St) (al : List Al) (R : FlowR), flowOps P call ops l i st al = some R → FlowFacts st R
  | [], _, st, al, R, h => by cases h; exact ⟨rfl, Nat.le_refl _, rfl, fun ρ => Agree.refl _ _, fun _ => rfl⟩
  | o :: l, i, st, al, R, h => by
    simp only [flowOps] at h
    split at h
    · rename_i R1 h1
      split at h
      · rename_i R2 h2
        cases h
        obtain ⟨a1, a2, a3, a4, a5⟩ := flowStep_facts hc h1
        have k := flowOps_facts hc l (i + 1) _ _ _ h2
        exact ⟨k.live.trans a1, Nat.le_trans a2 k.nv, k.mem.trans a3, fun ρ => by rw [evSeq_run]; exact (a4 ρ).trans ((k.agree _).mono a2), fun ρ => by rw [evSeq_run, ← a1, k.same, a1, a5]⟩
      · cases h
    · cases h

theorem flowOps_sound (hc : CallerOK P call) {β : Nat → Nat} {M : Array Nat} {Fin : List (Nat × Kind) → (Vals → Act) → Prop} : ∀ (l : List Oper) (i : Nat) (st : St) (al : List Al) (R : FlowR) (ρ : Env) (Ts : List (Nat × Kind)) (A : Vals → Act),
    flowOps P call ops l i st al = some R → FInv S w0 W β ρ st al i Ts A → bev ρ st.live = true → R.need.holds ρ →
    (∀ Ts' A' j, FInv S w0 W β (R.env.run ρ) R.st R.al j Ts' A' → Fin Ts' A') → wpFlowL P ops.toArray M W Fin l i Ts A
  | [], i, st, al, R, ρ, Ts, A, h, HI, _, _, hF => by cases h; exact flow_nil (hF Ts A i HI)
  | o :: l, i, st, al, R, ρ, Ts, A, h, HI, hl, hn, hF => by
    simp only [flowOps] at h
    split at h
    · rename_i R1 h1
      split at h
      · rename_i R2 h2
        cases h
        simp only [ndAnd_holds, ndAt_holds, evSeq_run] at hn hF
        obtain ⟨a1, a2, a3, a4, a5⟩ := flowStep_facts hc h1
        exact flowStep_sound hc h1 HI hl hn.1 fun k A' HI' => flowOps_sound hc l (i + 1) _ _ _ _ _ _ h2 HI' (by rw [a1, a5]; exact hl) hn.2 hF
      · cases h
    · cases h

/-- What is checked of a region that draws its order, whose first n operations come in any order. -/
def drawB (l : List Oper) (n : Nat) : Bool :=
  flowB l.toArray (Region.before l.toArray) (Array.replicate l.length false) (List.range n) &&
    Region.seqB .any l.toArray (l.drop n).length n ((List.range n).foldl (fun l i => l.setIfInBounds i true) (Array.replicate l.length false)) && decide (n ≤ l.length)

def drawN (P : Program) (call : Caller) (l : List Oper) (st : St) (n : Nat) : Option StepR :=
  if drawB l n = true ∧ P.follows .mixedOrders = true then match flowOps P call l (l.take n) 0 st [] with
    | some R => match runOps P call l (l.drop n) (finish R.st R.al) with
      | some R2 => some ⟨R2.st, ndAnd R.need (ndAt R.env R2.need), evSeq R.env R2.env⟩
      | none => none
    | none => none
  else none

theorem finish_same : ∀ (al : List Al) (st : St), (finish st al).live = st.live ∧ (finish st al).nv = st.nv ∧ st.mem.length ≤ (finish st al).mem.length
  | [], st => ⟨rfl, rfl, Nat.le_refl _⟩
  | e :: al, st => by
    obtain ⟨h1, h2, h3⟩ := finish_same al (finish1 st e)
    refine ⟨h1, h2, Nat.le_trans ?_ h3⟩
    simp [finish1]

theorem drawN_facts (hc : CallerOK P call) {l : List Oper} {st : St} {n : Nat} {R : StepR} (h : drawN P call l st n = some R) : Facts1 st R := by
  unfold drawN at h
  split at h
  · split at h
    · rename_i R1 h1
      split at h
      · rename_i R2 h2
        cases h
        have k1 := flowOps_facts hc _ _ _ _ _ h1
        have k2 := runOps_facts hc _ _ _ h2
        obtain ⟨f1, f2, f3⟩ := finish_same R1.al R1.st
        have e1 : Facts1 st ⟨finish R1.st R1.al, R1.need, R1.env⟩ := ⟨f1.trans k1.live, by rw [f2]; exact k1.nv, by rw [← k1.mem]; exact f3, k1.agree, k1.same⟩
        exact e1.trans k2
      · cases h
    · cases h
  · cases h

theorem drawN_sound (hc : CallerOK P call) {l : List Oper} {st : St} {n : Nat} {R : StepR} (h : drawN P call l st n = some R) {β : Nat → Nat} {ρ : Env} {a : Act} {w : World} {id : Nat}
    (hA : RelA S w0 β ρ st a w) (hl : bev ρ st.live = true) (hn : R.need.holds ρ)
    (hQ : ∀ β' a' w', AgB st.mem.length β β' → RelA S w0 β' (R.env.run ρ) R.st a' w' → Q .normal a' w') : (Code.region id l.toArray true).wp P Q a w := by
  unfold drawN at h
  split at h
  · rename_i hB
    split at h
    · rename_i R1 h1
      split at h
      · rename_i R2 h2
        cases h
        simp only [ndAnd_holds, ndAt_holds, evSeq_run] at hn hQ
        obtain ⟨n1, n2⟩ := hn
        have k1 := flowOps_facts hc _ _ _ _ _ h1
        obtain ⟨f1, f2, f3⟩ := finish_same R1.al R1.st
        refine wp_region_flow n hB.2 hB.1 fun M _ K hK => ?_
        refine flowOps_sound (S := S) (w0 := w0) (W := w) (β := β) hc (l.take n) 0 st [] R1 ρ [] (fun _ => a) h1 ?_ hl n1 ?_
        · exact ⟨fun x w' hw β' hβ => (hA β' hβ).below hw, fun x e he => (by cases he), fun e he => (by cases he), fun e he => (by cases he), fun e he => (by cases he), by simp⟩
        · intro Ts' A' j HI x w' hw hf hap
          refine hK.out _ _ ?_
          have hr := HI.rel x w' hw
          have hal : ∀ e ∈ R1.al, (x e.i).val = .pointer (some ⟨(x e.i).lo, 0, none⟩) ∧ (x e.i).hi = (x e.i).lo + 1 ∧ w'.heap[(x e.i).lo]? = some (.cells (e.l.map (CV.ev β (R1.env.run ρ))).toArray e.T (0, 0)) := by
            intro e he
            have := factsOf_mem Ts' hf (HI.fact e he)
            simp only [AllocFact, Flow.mask_self] at this
            exact this
          obtain ⟨β1, hb1, hr1⟩ := finish_sound (lo := fun i => (x i).lo) R1.al R1.st β hr
            (fun e he β' hβ => by rw [HI.cells e he β' hβ]; exact (hal e he).2.2)
            (fun e he => by have := hap.1 _ _ (HI.fact e he); have := (hA β (AgB.refl _ _)).keep.size; omega)
            (fun e he b y hb => by
              have h1 := hap.1 _ _ (HI.fact e he)
              rw [k1.mem] at hb
              have h2 := (hA β (AgB.refl _ _)).toMRel.lt hb
              omega)
            (by
              have hnd := HI.nd
              rw [List.nodup_iff_pairwise_ne, List.pairwise_map] at hnd ⊢
              refine hnd.imp_of_mem fun {e f} he hf' hne => ?_
              have h1 := hap.2 _ _ _ _ (HI.fact e he) (HI.fact f hf') hne
              have h2 := (hal e he).2.1
              have h3 := (hal f hf').2.1
              omega)
            (fun e he hs => by rw [HI.slot x e he hs, (hal e he).1])
          refine runOps_sound hc _ _ _ β1 (R1.env.run ρ) _ _ h2 hr1 (by rw [f1, k1.live, k1.same]; exact hl) n2 fun β2 a2 w2 hb2 hA2 => hQ β2 a2 w2 ?_ hA2
          rw [k1.mem] at hb1 f3
          exact hb1.trans (hb2.mono f3)
      · cases h
    · cases h
  · cases h
end
end Go.Ex
