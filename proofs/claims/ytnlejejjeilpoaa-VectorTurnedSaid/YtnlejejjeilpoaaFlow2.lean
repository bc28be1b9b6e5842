/- Whole variables out of known blocks, within a region that draws and without. -/
import Derived.Test.YtnlejejjeilpoaaFlow
set_option linter.unusedSimpArgs false
set_option linter.unusedVariables false
set_option linter.constructorNameAsVariable false
namespace Go.Flow
open Go.RowKit

/-! ### Whole variables, of whatever cells, out of a known block -/

def rowTy (P : Program) (ty : TypeId) (n : Nat) : Bool :=
  (match P.underlying ty with | some (.struct _) | some (.array _ _) => true | _ => false) && (P.info? ty).map (·.size) == some n

theorem run_load_row {P : Program} {W : World} {ty : TypeId} {b : Nat} {cs : Array Value} {T : TypeId} {fr : Nat × Nat} {n : Nat} (hb : W.heap[b]? = some (.cells cs T fr)) (hcs : cs.size = n) (hrow : rowTy P ty n = true) :
    (loadVar ty ⟨b, 0, none⟩).run P W = .ok (.agg cs) W := by
  simp only [rowTy, Bool.and_eq_true, beq_iff_eq] at hrow
  obtain ⟨h1, h2⟩ := hrow
  cases hu : P.underlying ty with
  | none => simp [hu] at h1
  | some d =>
    refine run_loadVar_row W b T ty cs fr d hb hu ?_ (by rw [h2, hcs])
    rw [hu] at h1
    cases d <;> simp_all

theorem flow_load_row {P : Program} {ops : Array Oper} {M : Array Nat} {W : World} {Fin : List (Nat × Kind) → (Vals → Act) → Prop} {j : Nat} {l : List Oper} {Ts : List (Nat × Kind)} {A : Vals → Act} {L : List (Nat × Array Value × TypeId)}
    {d : Option Tmp} {ty t : TypeId} {y : Operand} {pos : String} {af : Array Edge} {g : Option (Nat × Bool)} {b n : Nat} {cs : Array Value} {T : TypeId}
    (hx : ∀ x, (A x).eval y = .pointer (some ⟨b, 0, none⟩)) (hB : Blocks W L) (i : Nat) (hi : L[i]? = some (b, cs, T)) (hcs : cs.size = n) (hrow : rowTy P ty n = true)
    (hg : ∀ x, Region.wanted ⟨d, .load ty y, t, pos, af, g⟩ (yielded ops (A x).tmps) = true)
    (k : wpFlowL P ops M W Fin l (j + 1) (Ts ++ [(j, .const (.agg cs))]) (fun x => (A x).put d (.agg cs))) : wpFlowL P ops M W Fin (⟨d, .load ty y, t, pos, af, g⟩ :: l) j Ts A := by
  refine flow_const (fun x w hw _ => ⟨hg x, ?_⟩) k
  have := run_load_row (P := P) (ty := ty) ((hB.grow hw) _ (List.mem_of_getElem? hi)) hcs hrow
  dsimp only at this
  unfold newAt execOp
  simp only [hx x, Instr.loadAt, Instr.sureAddr, Sem.run_bind, Sem.run_pure, Result.andThen_ok, this, newUpon]
  exact ⟨Grow.refl _, trivial⟩

theorem wl_load_row {P : Program} {ops : Array Oper} {rest : List Oper} {a : Act} {W : World} {Q : Exit → Act → World → Prop} {L : List (Nat × Array Value × TypeId)}
    {d : Option Tmp} {ty t : TypeId} {y : Operand} {pos : String} {af : Array Edge} {b n : Nat} {cs : Array Value} {T : TypeId}
    (hx : a.eval y = .pointer (some ⟨b, 0, none⟩)) (hB : Blocks W L) (i : Nat) (hi : L[i]? = some (b, cs, T)) (hcs : cs.size = n) (hrow : rowTy P ty n = true)
    (h : wpList P ops Q rest (a.put d (.agg cs)) W) : wpList P ops Q (⟨d, .load ty y, t, pos, af, none⟩ :: rest) a W := by
  refine wpList_plain rfl fun _ hK => ?_
  have := run_load_row (P := P) (ty := ty) (hB _ (List.mem_of_getElem? hi)) hcs hrow
  dsimp only at this
  unfold Oper.wp execOp
  simp only [hx, Instr.loadAt, Instr.sureAddr, Sem.run_bind, Sem.run_pure, Result.andThen_ok, this]
  exact hK _ _ h

def HaltHere : Prop := True

/-- Where a walk is to stop: ahead of a load. -/
theorem stop_load {P : Program} {ops : Array Oper} {rest : List Oper} {a : Act} {W : World} {Q : Exit → Act → World → Prop} {d : Option Tmp} {ty t : TypeId} {y : Operand} {pos : String} {af : Array Edge} {g : Option (Nat × Bool)}
    (h : HaltHere → wpList P ops Q (⟨d, .load ty y, t, pos, af, g⟩ :: rest) a W) : wpList P ops Q (⟨d, .load ty y, t, pos, af, g⟩ :: rest) a W := h True.intro

theorem stop_store {P : Program} {ops : Array Oper} {rest : List Oper} {a : Act} {W : World} {Q : Exit → Act → World → Prop} {d : Option Tmp} {ty t : TypeId} {x y : Operand} {pos : String} {af : Array Edge} {g : Option (Nat × Bool)}
    (h : HaltHere → wpList P ops Q (⟨d, .store ty x y, t, pos, af, g⟩ :: rest) a W) : wpList P ops Q (⟨d, .store ty x y, t, pos, af, g⟩ :: rest) a W := h True.intro

/-- The same, of an operation with a guard that holds. -/
theorem wl_load_rowG {P : Program} {ops : Array Oper} {rest : List Oper} {a : Act} {W : World} {Q : Exit → Act → World → Prop} {L : List (Nat × Array Value × TypeId)}
    {d : Option Tmp} {ty t : TypeId} {y : Operand} {pos : String} {af : Array Edge} {g : Option (Nat × Bool)} {b n : Nat} {cs : Array Value} {T : TypeId}
    (hx : a.eval y = .pointer (some ⟨b, 0, none⟩)) (hg : Region.wanted ⟨d, .load ty y, t, pos, af, g⟩ (yielded ops a.tmps) = true) (hB : Blocks W L) (i : Nat) (hi : L[i]? = some (b, cs, T)) (hcs : cs.size = n) (hrow : rowTy P ty n = true)
    (h : HaltHere → wpList P ops Q rest (a.put d (.agg cs)) W) : wpList P ops Q (⟨d, .load ty y, t, pos, af, g⟩ :: rest) a W := by
  refine BigFrame.wpList_want hg fun _ hK => ?_
  have := run_load_row (P := P) (ty := ty) (hB _ (List.mem_of_getElem? hi)) hcs hrow
  dsimp only at this
  unfold Oper.wp execOp
  simp only [hx, Instr.loadAt, Instr.sureAddr, Sem.run_bind, Sem.run_pure, Result.andThen_ok, this]
  exact hK _ _ (h True.intro)

/-- A function's result read out of a known block. -/
theorem post_row {P : Program} {fn : Func} {R : Ending → World → Prop} {a : Act} {W : World} {L : List (Nat × Array Value × TypeId)} {p : Tmp} {ty : TypeId} {b n : Nat} {cs : Array Value} {T : TypeId}
    (hr : fn.results = #[.cell p ty]) (hp : a.tmps.getD p undef = .pointer (some ⟨b, 0, none⟩)) (hB : Blocks W L) (i : Nat) (hi : L[i]? = some (b, cs, T)) (hcs : cs.size = n) (hrow : rowTy P ty n = true)
    (hd : a.defers = []) (h : R (.returned (.agg cs)) W) : bodyPost P fn R .ret a W := by
  refine bodyPost_ret (v := .agg cs) ?_ hd h
  have hp' : a.tmps[p]?.getD undef = .pointer (some ⟨b, 0, none⟩) := by simpa using hp
  have hl := run_load_row (P := P) (ty := ty) (hB _ (List.mem_of_getElem? hi)) hcs hrow
  dsimp only at hl
  simp [results, hr, hp', asAddr, hl]

theorem post_row2 {P : Program} {fn : Func} {R : Ending → World → Prop} {a : Act} {W : World} {L : List (Nat × Array Value × TypeId)} {p u : Tmp} {ty : TypeId} {b n : Nat} {cs : Array Value} {T : TypeId}
    (hr : fn.results = #[.cell p ty, .tmp u]) (hp : a.tmps.getD p undef = .pointer (some ⟨b, 0, none⟩)) (hB : Blocks W L) (i : Nat) (hi : L[i]? = some (b, cs, T)) (hcs : cs.size = n) (hrow : rowTy P ty n = true)
    (hd : a.defers = []) (h : R (.returned (.tuple #[.agg cs, a.tmps.getD u undef])) W) : bodyPost P fn R .ret a W := by
  refine bodyPost_ret (v := .tuple #[.agg cs, a.tmps.getD u undef]) ?_ hd h
  have hp' : a.tmps[p]?.getD undef = .pointer (some ⟨b, 0, none⟩) := by simpa using hp
  have hl := run_load_row (P := P) (ty := ty) (hB _ (List.mem_of_getElem? hi)) hcs hrow
  dsimp only at hl
  simp [results, hr, hp', asAddr, hl]

theorem all_ints (k : IntKind) (l : List Int) : ((l.map (Value.int k)).toArray).all (·.oneCell') = true := by
  simp [Array.all_eq_true', Value.oneCell']

theorem wl_store_row2 {P : Program} {ops : Array Oper} {rest : List Oper} {a : Act} {w0 W : World} {Q : Exit → Act → World → Prop} {L : List (Nat × Array Value × TypeId)}
    {ty t : TypeId} {x y : Operand} {d : Option Tmp} {pos : String} {af : Array Edge} {b n : Nat} {cs : Array Value} {T : TypeId} {cells : Array Value}
    (hx : a.eval x = .pointer (some ⟨b, 0, none⟩)) (hy : a.eval y = .agg cells) (hB : Blocks W L) (hG : Grow w0 W) (i : Nat) (hi : L[i]? = some (b, cs, T))
    (hcl : cells.size = n) (hcs : cs.size = n) (hrow : rowTy P ty n = true) (h1 : cells.all (·.oneCell') = true) (hb0 : w0.heap.size ≤ b)
    (h : ∀ W', Blocks W' (L.map fun e => if e.1 = b then (e.1, cells, e.2.2) else e) → Grow w0 W' → wpList P ops Q rest (a.put d undef) W') :
    wpList P ops Q (⟨d, .store ty x y, t, pos, af, none⟩ :: rest) a W := by
  simp only [rowTy, Bool.and_eq_true, beq_iff_eq] at hrow
  exact wl_store_row hx hy hB hG i hi (by rw [hrow.2, hcl]) (by rw [hcs, hcl]) h1 hb0 h

end Go.Flow
