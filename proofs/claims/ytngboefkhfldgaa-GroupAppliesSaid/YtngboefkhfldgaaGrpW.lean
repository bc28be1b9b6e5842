/- Layer 17: headers that may be told whether they are formed; Made as a contract: a header without tokens, and a control. No condition. -/
import Derived.Test.YtngboefkhfldgaaGrpV
import Derived.Test.YtngboefkhfldgaaSxF
import Derived.Test.YtngboefkhfldgaaGrpR
import Derived.Test.YtngboefkhfldgaaForm3
set_option linter.unusedSimpArgs false
set_option linter.unusedVariables false
set_option linter.constructorNameAsVariable false
namespace Go.Proofs.Ytngboefkhfldgaa.V2
open Go Go.Sx

/-! ### The document's Behind and May -/
theorem gOf_v (q : Env) : gOf ⟨q.i, q.b⟩ 0 = gOfV ((SV.agg (Sx.ckCVs 0 gk2)).ev q) := by
  have hm : ∀ k, (decide (k < 6) && q.b (0 + 2 + k)) = (decide (k < 6) && atB ((SV.agg (Sx.ckCVs 0 gk2)).ev q) (2 + k)) := fun k => match k with
    | 0 => rfl | 1 => rfl | 2 => rfl | 3 => rfl | 4 => rfl | 5 => rfl
    | k + 6 => by rw [decide_eq_false (show ¬ k + 6 < 6 by omega)]; rfl
  have hg : ∀ k, (decide (k < 6) && q.b (0 + 8 + k)) = (decide (k < 6) && atB ((SV.agg (Sx.ckCVs 0 gk2)).ev q) (8 + k)) := fun k => match k with
    | 0 => rfl | 1 => rfl | 2 => rfl | 3 => rfl | 4 => rfl | 5 => rfl
    | k + 6 => by rw [decide_eq_false (show ¬ k + 6 < 6 by omega)]; rfl
  have hc : ∀ k, (if k < 6 then q.i (0 + 14 + k) else 0) = (if k < 6 then atI ((SV.agg (Sx.ckCVs 0 gk2)).ev q) (14 + k) else 0) := fun k => match k with
    | 0 => rfl | 1 => rfl | 2 => rfl | 3 => rfl | 4 => rfl | 5 => rfl
    | k + 6 => by rw [if_neg (show ¬ k + 6 < 6 by omega), if_neg (show ¬ k + 6 < 6 by omega)]
  unfold gOf gOfV
  simp only [hm, hg, hc]
  rfl
def refBehindS2 : Sx.Spec := pureS 14 [.agg gk2, .one i64, .one i64, .one i64, .one (.int .u64)] [.agg gk2] (fun _ => True) behindG
theorem refBehindS2_ok : refBehindS2.OK Try.prog := by
  refine pure_of_calls (fun q _ _ => shape_group _) (fun q w _ _ => ?_)
  refine (Ex.funE_sound (fun s hs => by cases hs) refB_eq id ⟨q.i, q.b, w⟩ w (fun _ _ h => h) (behindRef ⟨q.i, q.b⟩ w).1).mono fun e w' h => ⟨h.1.trans (congrArg Ending.returned ((behindRef ⟨q.i, q.b⟩ w).2.trans ?_)), h.2⟩
  show gV (behind (gOf ⟨q.i, q.b⟩ 0) (q.i 21) (q.i 22) (q.i 23) (q.i 24)) = _
  rw [gOf_v]; rfl
def refMayS2 : Sx.Spec := pureS 13 [.agg gk2, .one i64, .one i64, .one i64] [.one i64] (fun _ => True) mayG
theorem refMayS2_ok : refMayS2.OK Try.prog := by
  refine pure_of_calls (fun q _ _ => shape_int _ _) (fun q w _ _ => ?_)
  refine (Ex.funE_sound (fun s hs => by cases hs) refM_eq id ⟨q.i, q.b, w⟩ w (fun _ _ h => h) (mayRef ⟨q.i, q.b⟩ w).1).mono fun e w' h => ⟨h.1.trans (congrArg Ending.returned ((mayRef ⟨q.i, q.b⟩ w).2.trans ?_)), h.2⟩
  rw [gOf_v]; rfl

/-! ### Headers -/
/-- A header whose tokens lie in a piece that is a world's whole memory. -/
def HdrAt (h : Value) (R : Hl) (W : World) (p : Ex.Pt) : Prop := R = Hl.all W ∧ [h] = Ex.swVals p 0 [.agg hk] ∧ FormN p W
def HdrOK (h : Value) (R : Hl) : Prop := ∃ (W : World) (p : Ex.Pt), HdrAt h R W p
open Classical in
noncomputable def hForm (h : Value) (R : Hl) : Bool := if x : ∃ (W : World) (p : Ex.Pt), HdrAt h R W p then formB x.choose_spec.choose x.choose else false
theorem hForm_at {h : Value} {R : Hl} (x : HdrOK h R) : ∃ (W : World) (p : Ex.Pt), HdrAt h R W p ∧ hForm h R = formB p W := by
  refine ⟨x.choose, x.choose_spec.choose, x.choose_spec.choose_spec, ?_⟩
  unfold hForm
  exact dif_pos x
theorem formed_any (p : Ex.Pt) (W w : World) (hr : ∀ (k : Nat) (o : Obj), W.heap[k]? = some o → w.heap[k]? = some o) (hN : FormN p W) : Calls Try.prog 26 (Ex.swVals p 0 [.agg hk]).toArray w fun e w' => e = .returned (.bool (formB p W)) ∧ RowKit.Below w.heap.size w w' := by
  have key := Ex.funE_sound frmΓ_ok fE_eq id (en p W) w hr (needE hN)
  rw [hk_args] at key
  exact key.mono fun e w' h => ⟨h.1.trans (congrArg (fun b => Ending.returned (Value.bool b)) (lawE hN)), h.2⟩
theorem refFormed_any (p : Ex.Pt) (W w : World) (hr : ∀ (k : Nat) (o : Obj), W.heap[k]? = some o → w.heap[k]? = some o) (hN : FormN p W) : Calls Try.prog 28 (Ex.swVals p 0 [.agg hk]).toArray w fun e w' => e = .returned (.bool (formB p W)) ∧ RowKit.Below w.heap.size w w' := by
  have key := Ex.funE_sound frmΓ_ok fR_eq id (en p W) w hr (needR hN)
  rw [hk_args] at key
  exact key.mono fun e w' h => ⟨h.1.trans (congrArg (fun b => Ending.returned (Value.bool b)) (lawR hN)), h.2⟩
noncomputable def eFormS : Sx.Spec := eFormedS HdrOK hForm
theorem eFormS_ok : eFormS.OK Try.prog := by
  refine calls_spec rfl fun w xs Rs hs ⟨h, R, e1, e2, hok⟩ => ?_
  subst e1; subst e2
  obtain ⟨W, p, ⟨hR, hh, hN⟩, hf⟩ := hForm_at hok
  refine ⟨.bool (hForm h R), shape_bool _, ?_, h, R, rfl, rfl, rfl⟩
  rw [hh, hf]
  refine formed_any p W w (fun k o ho => ?_) hN
  exact hs R (by simp) k o (by rw [hR]; exact ho)
noncomputable def refFormS : Sx.Spec := { eFormedS HdrOK hForm with fn := 28 }
theorem refFormS_ok : refFormS.OK Try.prog := by
  refine calls_spec rfl fun w xs Rs hs ⟨h, R, e1, e2, hok⟩ => ?_
  subst e1; subst e2
  obtain ⟨W, p, ⟨hR, hh, hN⟩, hf⟩ := hForm_at hok
  refine ⟨.bool (hForm h R), shape_bool _, ?_, h, R, rfl, rfl, rfl⟩
  rw [hh, hf]
  refine refFormed_any p W w (fun k o ho => ?_) hN
  exact hs R (by simp) k o (by rw [hR]; exact ho)
noncomputable def applyS2 : Sx.Spec := applyS HdrOK hForm
theorem applyS2_ok : applyS2.OK Try.prog := applyS_ok HdrOK hForm eFormS_ok

/-! ### Made -/
def sk2 : List Ck := [i64, i64, i64, .int .u64]
def hdrL (x : CV) : List CV := [x, .int .u64 (.lit 1)] ++ List.replicate 32 (CV.int .u8 (.lit 0)) ++ [.int .i64 (.lit 0), .bool .tt, .int .u64 (.lit 0)] ++ List.replicate 16 (CV.int .u8 (.lit 0)) ++ [.sl (.lit (-1)) (.lit 0) (.lit 0) (.lit 0), .int .u64 (.lit 0), .int .u64 (.lit 0), .int .u64 (.lit 0), .int .u64 (.lit 0), .int .u64 (.lit 0), .int .u64 (.lit 0)] ++ List.replicate 32 (CV.int .u8 (.lit 0)) ++ [.int .i64 (.lit 80)] ++ List.replicate 32 (CV.int .u8 (.lit 0))
/-- A header of a writer, without tokens. -/
def hdrV (x : Int) : Value := (SV.agg (hdrL (.int .i64 (.lit x)))).ev ⟨fun _ => 0, fun _ => false, fun _ => .empty, fun _ => .tuple #[], fun _ => Hl.none⟩
def madeS : Sx.Spec where
  fn := 15
  own := []
  rd := []
  res := [.agg hk2, .agg ck2]
  pre := fun xs Hs Rs => ∃ q, xs = inVs [.agg gk2, .agg sk2] q
  post := fun xs Hs Rs v Hs' F => ∃ x c, v = .tuple #[hdrV x, c]
def madeNd : Nd := .ext (.alloc 25) (.ext (.alloc 26) (.ext (.alloc 27) (.ext (.alloc 28) (.ext (.alloc 29) (.ext (.alloc 30) (.and (.pre (.call 0 31 [.sv (.agg (Sx.ckCVs 0 gk2)), .sv (.one (.int .i64 (.var 21))), .sv (.one (.int .i64 (.var 22))), .sv (.one (.int .i64 (.var 23))), .sv (.one (.int .u64 (.var 24)))] [] [])) (.ext (.call 0 31 [.sv (.agg (Sx.ckCVs 0 gk2)), .sv (.one (.int .i64 (.var 21))), .sv (.one (.int .i64 (.var 22))), .sv (.one (.int .i64 (.var 23))), .sv (.one (.int .u64 (.var 24)))] [] []) (.ext (.alloc 52) (.and (.inv 0 [⟨60, 0, .int .i64 (.lit 0)⟩, ⟨62, 0, .int .i64 (.lit (-1))⟩, ⟨63, 0, .int .i64 (.lit 0)⟩, ⟨64, 0, .int .i64 (.lit 0)⟩, ⟨65, 0, .int .i64 (.lit 0)⟩, ⟨66, 0, .int .i64 (.lit (-1))⟩, ⟨67, 0, .int .i64 (.lit 0)⟩, ⟨68, 0, .int .i64 (.lit 0)⟩, ⟨69, 0, .int .i64 (.lit 0)⟩, ⟨70, 0, .int .i64 (.lit (-1))⟩, ⟨71, 0, .int .i64 (.lit 0)⟩, ⟨72, 0, .int .i64 (.lit 0)⟩, ⟨73, 0, .int .i64 (.lit 0)⟩, ⟨74, 0, .int .i64 (.lit (-1))⟩, ⟨75, 0, .int .i64 (.lit 0)⟩, ⟨76, 0, .int .i64 (.lit 0)⟩, ⟨77, 0, .int .i64 (.lit 0)⟩, ⟨78, 0, .int .i64 (.lit (-1))⟩, ⟨79, 0, .int .i64 (.lit 0)⟩, ⟨80, 0, .int .i64 (.lit 0)⟩, ⟨81, 0, .int .i64 (.lit 0)⟩, ⟨82, 0, .int .i64 (.lit (-1))⟩, ⟨83, 0, .int .i64 (.lit 0)⟩, ⟨84, 0, .int .i64 (.lit 0)⟩, ⟨85, 0, .int .i64 (.lit 0)⟩] []) (.havoc 0 0 53 (.and (.imp (.lt (.var 60) (.lit 6)) (.and (.imp (.not (.eq (.var 22) (.lit 5))) (.and (.e (.le (.lit 0) (.var 60))) (.and (.imp (.ite (.eq (.var 60) (.lit 0)) (.bvar 33) (.ite (.eq (.var 60) (.lit 1)) (.bvar 34) (.ite (.eq (.var 60) (.lit 2)) (.bvar 35) (.ite (.eq (.var 60) (.lit 3)) (.bvar 36) (.ite (.eq (.var 60) (.lit 4)) (.bvar 37) (.bvar 38)))))) (.and (.pre (.mk 100 5 [.int .u8 (.lit 0)] 1 (.lit 48))) (.ext (.mk 100 5 [.int .u8 (.lit 0)] 1 (.lit 48)) (.and (.e (.and (.le (.lit 0) (.var 60)) (.lt (.var 60) (.lit 6)))) (.back 0 0 [⟨60, 0, .int .i64 (.wrap .i64 (.add (.var 60) (.lit 1)))⟩, ⟨62, 0, .int .i64 (.ite (.eq (.var 60) (.lit 0)) (.var 100) (.var 62))⟩, ⟨63, 0, .int .i64 (.ite (.eq (.var 60) (.lit 0)) (.lit 0) (.var 63))⟩, ⟨64, 0, .int .i64 (.ite (.eq (.var 60) (.lit 0)) (.lit 48) (.var 64))⟩, ⟨65, 0, .int .i64 (.ite (.eq (.var 60) (.lit 0)) (.lit 48) (.var 65))⟩, ⟨66, 0, .int .i64 (.ite (.eq (.var 60) (.lit 1)) (.var 100) (.var 66))⟩, ⟨67, 0, .int .i64 (.ite (.eq (.var 60) (.lit 1)) (.lit 0) (.var 67))⟩, ⟨68, 0, .int .i64 (.ite (.eq (.var 60) (.lit 1)) (.lit 48) (.var 68))⟩, ⟨69, 0, .int .i64 (.ite (.eq (.var 60) (.lit 1)) (.lit 48) (.var 69))⟩, ⟨70, 0, .int .i64 (.ite (.eq (.var 60) (.lit 2)) (.var 100) (.var 70))⟩, ⟨71, 0, .int .i64 (.ite (.eq (.var 60) (.lit 2)) (.lit 0) (.var 71))⟩, ⟨72, 0, .int .i64 (.ite (.eq (.var 60) (.lit 2)) (.lit 48) (.var 72))⟩, ⟨73, 0, .int .i64 (.ite (.eq (.var 60) (.lit 2)) (.lit 48) (.var 73))⟩, ⟨74, 0, .int .i64 (.ite (.eq (.var 60) (.lit 3)) (.var 100) (.var 74))⟩, ⟨75, 0, .int .i64 (.ite (.eq (.var 60) (.lit 3)) (.lit 0) (.var 75))⟩, ⟨76, 0, .int .i64 (.ite (.eq (.var 60) (.lit 3)) (.lit 48) (.var 76))⟩, ⟨77, 0, .int .i64 (.ite (.eq (.var 60) (.lit 3)) (.lit 48) (.var 77))⟩, ⟨78, 0, .int .i64 (.ite (.eq (.var 60) (.lit 4)) (.var 100) (.var 78))⟩, ⟨79, 0, .int .i64 (.ite (.eq (.var 60) (.lit 4)) (.lit 0) (.var 79))⟩, ⟨80, 0, .int .i64 (.ite (.eq (.var 60) (.lit 4)) (.lit 48) (.var 80))⟩, ⟨81, 0, .int .i64 (.ite (.eq (.var 60) (.lit 4)) (.lit 48) (.var 81))⟩, ⟨82, 0, .int .i64 (.ite (.eq (.var 60) (.lit 5)) (.var 100) (.var 82))⟩, ⟨83, 0, .int .i64 (.ite (.eq (.var 60) (.lit 5)) (.lit 0) (.var 83))⟩, ⟨84, 0, .int .i64 (.ite (.eq (.var 60) (.lit 5)) (.lit 48) (.var 84))⟩, ⟨85, 0, .int .i64 (.ite (.eq (.var 60) (.lit 5)) (.lit 48) (.var 85))⟩] []))))) (.imp (.not (.ite (.eq (.var 60) (.lit 0)) (.bvar 33) (.ite (.eq (.var 60) (.lit 1)) (.bvar 34) (.ite (.eq (.var 60) (.lit 2)) (.bvar 35) (.ite (.eq (.var 60) (.lit 3)) (.bvar 36) (.ite (.eq (.var 60) (.lit 4)) (.bvar 37) (.bvar 38))))))) (.back 0 0 [⟨60, 0, .int .i64 (.wrap .i64 (.add (.var 60) (.lit 1)))⟩, ⟨62, 0, .int .i64 (.var 62)⟩, ⟨63, 0, .int .i64 (.var 63)⟩, ⟨64, 0, .int .i64 (.var 64)⟩, ⟨65, 0, .int .i64 (.var 65)⟩, ⟨66, 0, .int .i64 (.var 66)⟩, ⟨67, 0, .int .i64 (.var 67)⟩, ⟨68, 0, .int .i64 (.var 68)⟩, ⟨69, 0, .int .i64 (.var 69)⟩, ⟨70, 0, .int .i64 (.var 70)⟩, ⟨71, 0, .int .i64 (.var 71)⟩, ⟨72, 0, .int .i64 (.var 72)⟩, ⟨73, 0, .int .i64 (.var 73)⟩, ⟨74, 0, .int .i64 (.var 74)⟩, ⟨75, 0, .int .i64 (.var 75)⟩, ⟨76, 0, .int .i64 (.var 76)⟩, ⟨77, 0, .int .i64 (.var 77)⟩, ⟨78, 0, .int .i64 (.var 78)⟩, ⟨79, 0, .int .i64 (.var 79)⟩, ⟨80, 0, .int .i64 (.var 80)⟩, ⟨81, 0, .int .i64 (.var 81)⟩, ⟨82, 0, .int .i64 (.var 82)⟩, ⟨83, 0, .int .i64 (.var 83)⟩, ⟨84, 0, .int .i64 (.var 84)⟩, ⟨85, 0, .int .i64 (.var 85)⟩] []))))) (.imp (.eq (.var 22) (.lit 5)) (.back 0 0 [⟨60, 0, .int .i64 (.wrap .i64 (.add (.var 60) (.lit 1)))⟩, ⟨62, 0, .int .i64 (.var 62)⟩, ⟨63, 0, .int .i64 (.var 63)⟩, ⟨64, 0, .int .i64 (.var 64)⟩, ⟨65, 0, .int .i64 (.var 65)⟩, ⟨66, 0, .int .i64 (.var 66)⟩, ⟨67, 0, .int .i64 (.var 67)⟩, ⟨68, 0, .int .i64 (.var 68)⟩, ⟨69, 0, .int .i64 (.var 69)⟩, ⟨70, 0, .int .i64 (.var 70)⟩, ⟨71, 0, .int .i64 (.var 71)⟩, ⟨72, 0, .int .i64 (.var 72)⟩, ⟨73, 0, .int .i64 (.var 73)⟩, ⟨74, 0, .int .i64 (.var 74)⟩, ⟨75, 0, .int .i64 (.var 75)⟩, ⟨76, 0, .int .i64 (.var 76)⟩, ⟨77, 0, .int .i64 (.var 77)⟩, ⟨78, 0, .int .i64 (.var 78)⟩, ⟨79, 0, .int .i64 (.var 79)⟩, ⟨80, 0, .int .i64 (.var 80)⟩, ⟨81, 0, .int .i64 (.var 81)⟩, ⟨82, 0, .int .i64 (.var 82)⟩, ⟨83, 0, .int .i64 (.var 83)⟩, ⟨84, 0, .int .i64 (.var 84)⟩, ⟨85, 0, .int .i64 (.var 85)⟩] [])))) (.imp (.not (.lt (.var 60) (.lit 6))) (.and (.imp (.eq (.var 22) (.lit 5)) (.and (.pre (.mk 100 5 [.int .u8 (.lit 0)] 1 (.lit 48))) (.ext (.mk 100 5 [.int .u8 (.lit 0)] 1 (.lit 48)) (.post [.dead, .dead, .dead, .dead, .dead, .dead, .dead, .blk 100 (List.replicate 48 (CV.int .u8 (.lit 0))) 5] (.tup [.agg ([.int .i64 (.var 21), .int .u64 (.lit 1)] ++ List.replicate 32 (CV.int .u8 (.lit 0)) ++ [.int .i64 (.lit 0), .bool .tt, .int .u64 (.lit 0)] ++ List.replicate 16 (CV.int .u8 (.lit 0)) ++ [.sl (.lit (-1)) (.lit 0) (.lit 0) (.lit 0), .int .u64 (.lit 0), .int .u64 (.lit 0), .int .u64 (.lit 0), .int .u64 (.lit 0), .int .u64 (.lit 0), .int .u64 (.lit 0)] ++ List.replicate 32 (CV.int .u8 (.lit 0)) ++ [.int .i64 (.lit 80)] ++ List.replicate 32 (CV.int .u8 (.lit 0))), .agg ([.int .i64 (.var 22), .int .i64 (.var 23), .int .u64 (.var 24)] ++ Sx.ckCVs 62 (List.replicate 6 (Ck.sl)) ++ [.sl (.var 100) (.lit 0) (.lit 48) (.lit 48)])]))))) (.imp (.not (.eq (.var 22) (.lit 5))) (.post [.dead, .dead, .dead, .dead, .dead, .dead, .dead] (.tup [.agg ([.int .i64 (.var 21), .int .u64 (.lit 1)] ++ List.replicate 32 (CV.int .u8 (.lit 0)) ++ [.int .i64 (.lit 0), .bool .tt, .int .u64 (.lit 0)] ++ List.replicate 16 (CV.int .u8 (.lit 0)) ++ [.sl (.lit (-1)) (.lit 0) (.lit 0) (.lit 0), .int .u64 (.lit 0), .int .u64 (.lit 0), .int .u64 (.lit 0), .int .u64 (.lit 0), .int .u64 (.lit 0), .int .u64 (.lit 0)] ++ List.replicate 32 (CV.int .u8 (.lit 0)) ++ [.int .i64 (.lit 80)] ++ List.replicate 32 (CV.int .u8 (.lit 0))), .agg ([.int .i64 (.var 22), .int .i64 (.var 23), .int .u64 (.var 24)] ++ Sx.ckCVs 62 (List.replicate 6 (Ck.sl)) ++ [.sl (.lit (-1)) (.lit 0) (.lit 0) (.lit 0)])]))))))))))))))))
def madeW : Walk Try.prog [refBehindS2] 15 where
  Λ := fun p => if lp p then some ⟨0, [(9, TI .i64 (.var 60))], [(5, .blk 30 ([CV.int .i64 (.var 22), CV.int .i64 (.var 23), CV.int .u64 (.var 24)] ++ Sx.ckCVs 62 (List.replicate 6 Ck.sl) ++ [CV.sl (.lit (-1)) (.lit 0) (.lit 0) (.lit 0)]) 50)], 100⟩ else none
  args := (cpSVs 0 [.agg gk2, .agg sk2]).map .sv
  mem := []
  nv := 25
  nd := madeNd
  ok := by kernel_rfl
def slots6 : List Ck := [.sl, .sl, .sl, .sl, .sl, .sl]
def madeInv (_ : Nat) (q : Env) : Prop := 0 ≤ q.i 60 ∧ q.i 60 ≤ 6 ∧ ckNorms 62 slots6 q
set_option maxRecDepth 20000 in
theorem shape_made (q : Env) (hq : ckNorms 62 slots6 q) (x y l c : Int) (hn : -1 ≤ x ∧ 0 ≤ y ∧ 0 ≤ l ∧ 0 ≤ c) : shapeOK [.agg hk2, .agg ck2] (Value.tuple #[hdrV (q.i 21), .agg (([CV.int .i64 (.var 22), CV.int .i64 (.var 23), CV.int .u64 (.var 24)] ++ Sx.ckCVs 62 slots6 ++ [CV.sl (.lit x) (.lit y) (.lit l) (.lit c)]).map (CV.ev q)).toArray]) := by
  refine ⟨⟨fun j => if j = 0 then q.i 21 else if j = 1 then 1 else if j = 53 then -1 else if j = 95 then 80 else if j = 128 then q.i 22 else if j = 129 then q.i 23 else if j = 130 then q.i 24 else if j = 155 then x else if j = 156 then y else if j = 157 then l else if j = 158 then c else if 131 ≤ j then q.i (j - 69) else 0, fun j => j = 35, fun _ => .empty, fun _ => .tuple #[], fun _ => Hl.none⟩, rfl, ?_⟩
  obtain ⟨h0, h1, h2, h3, h4, h5, _⟩ := hq
  have hh : ckNorms 0 hk2 ⟨fun j => if j = 0 then q.i 21 else if j = 1 then 1 else if j = 53 then -1 else if j = 95 then 80 else if j = 128 then q.i 22 else if j = 129 then q.i 23 else if j = 130 then q.i 24 else if j = 155 then x else if j = 156 then y else if j = 157 then l else if j = 158 then c else if 131 ≤ j then q.i (j - 69) else 0, fun j => j = 35, fun _ => .empty, fun _ => .tuple #[], fun _ => Hl.none⟩ := by
    repeat' (first | exact trivial | exact Int.le_refl (-1) | exact Int.le_refl 0 | (refine ⟨?_, ?_⟩))
  exact ⟨hh, ⟨trivial, trivial, trivial, h0, h1, h2, h3, h4, h5, hn, trivial⟩, trivial⟩
theorem madeS_ok : madeS.OK Try.prog := by
  refine Spec.of_fn (Γ := [refBehindS2]) (fun t ht => ?_) ?_
  · rw [List.mem_singleton] at ht; subst ht; exact refBehindS2_ok
  rintro xs Hs Rs hl1 hl2 ⟨q, rfl⟩
  have e0 : Hs = [] := List.length_eq_zero_iff.1 hl1
  have e1 : Rs = [] := List.length_eq_zero_iff.1 hl2
  subst e0; subst e1
  refine ⟨madeW, q, madeInv, fun _ q => (6 - q.i 60).toNat, rfl, ⟨?_, ?_, ?_, ?_⟩, (fun _ h => nomatch h), ?_⟩
  · intro r hr; simp [madeW] at hr
  · intro r hr; simp [madeW] at hr
  · simp [madeW]
  · intro r hr; simp [madeW] at hr
  · show Nd.holds _ _ _ madeNd
    unfold madeNd
    have g0 : ([refBehindS2] : List Sx.Spec)[0]? = some refBehindS2 := rfl
    have r0 : refBehindS2.res = [.agg gk2] := rfl
    simp only [Nd.holds, X.pre, X.rel, X.n, g0, r0, newHs_zero, bT_tt, bT_ff, bT_bvar, bT_not, bT_and, bT_or, bT_ite, bT_lt, bT_le, bT_eq, bT_beq, bT_seq, bT_hB, bT_his, bT_hby, bT_hism, bT_hks, iev_lit, iev_var, List.map_cons, List.map_nil, List.length_nil, Nat.add_zero]
    have fin : ∀ (ρ : Env) (mem : Mem) (r : TV) (x y l c : Int), Agree 25 q ρ → ckNorms 62 slots6 ρ → (-1 ≤ x ∧ 0 ≤ y ∧ 0 ≤ l ∧ 0 ≤ c) → r.ev ρ = Value.tuple #[hdrV (ρ.i 21), .agg (([CV.int .i64 (.var 22), CV.int .i64 (.var 23), CV.int .u64 (.var 24)] ++ Sx.ckCVs 62 slots6 ++ [CV.sl (.lit x) (.lit y) (.lit l) (.lit c)]).map (CV.ev ρ)).toArray] →
        postOf madeS (inVs [.agg gk2, .agg sk2] q) [] [] ρ mem r := by
      intro ρ mem r x y l c hg hs hn hr _
      obtain ⟨ρ2, h1, h2⟩ := shape_made ρ hs x y l c hn
      exact ⟨[], [], rfl, rfl, ⟨ρ2, by rw [hr, h1]; rfl, h2⟩, _, _, hr⟩
    intro q1 g1 _ q2 g2 _ q3 g3 _ q4 g4 _ q5 g5 _ q6 g6 _
    refine ⟨⟨⟨⟨q6.i, q6.b, fun _ => .empty, fun _ => .tuple #[], fun _ => Hl.none⟩, ?_, rfl⟩, trivial⟩, fun q7 g7 _ q8 g8 _ => ⟨?_, ?_⟩⟩
    · exact ⟨(ckNorms_pure _ _ _ (by decide)).w, trivial, trivial, trivial, trivial, trivial⟩
    · show madeInv 0 (assign q8 _ _)
      refine ⟨Int.le_refl 0, (by decide : (0 : Int) ≤ 6), ?_⟩
      repeat' (first | exact trivial | exact Int.le_refl (-1) | exact Int.le_refl 0 | (refine ⟨?_, ?_⟩))
    · intro q9 g9 ⟨h0, h6, hs⟩
      have G9 : Agree 25 q q9 := (((((((g1.mono (by omega)).trans (g2.mono (by omega))).trans (g3.mono (by omega))).trans (g4.mono (by omega))).trans (g5.mono (by omega))).trans (g6.mono (by omega))).trans (g7.mono (by omega))).trans ((g8.mono (by omega)).trans (g9.mono (by omega)))
      have stay : q9.i 60 < 6 → madeInv 0 (assign q9 [⟨60, 0, .int .i64 (.wrap .i64 (.add (.var 60) (.lit 1)))⟩] []) ∧ (6 - IntKind.i64.wrap (q9.i 60 + 1)).toNat < (6 - q9.i 60).toNat := fun hlt => by
        have w : IntKind.i64.wrap (q9.i 60 + 1) = q9.i 60 + 1 := wrap_i64 (by omega) (by omega)
        refine ⟨⟨?_, ?_, hs⟩, by omega⟩
        · show 0 ≤ IntKind.i64.wrap (q9.i 60 + 1); omega
        · show IntKind.i64.wrap (q9.i 60 + 1) ≤ 6; omega
      refine ⟨fun hlt => ⟨fun hne => ⟨h0, fun _ => ⟨⟨by decide, by decide, by decide⟩, fun q10 g10 ⟨n100, _⟩ => ⟨⟨?_, ?_⟩, ?_⟩⟩, fun _ => stay hlt⟩, fun _ => stay hlt⟩, fun _ => ⟨fun _ => ⟨⟨by decide, by decide, by decide⟩, fun q10 g10 ⟨n100, _⟩ => ?_⟩, fun _ => ?_⟩⟩
      · rw [g10.i 60 (by omega)]; exact h0
      · rw [g10.i 60 (by omega)]; exact hlt
      · have hs10 : ckNorms 62 slots6 q10 := ckNorms_agree g10 slots6 62 (by decide) hs
        have w : IntKind.i64.wrap (q9.i 60 + 1) = q9.i 60 + 1 := wrap_i64 (by omega) (by omega)
        obtain ⟨⟨a0, b0, c0, d0⟩, ⟨a1, b1, c1, d1⟩, ⟨a2, b2, c2, d2⟩, ⟨a3, b3, c3, d3⟩, ⟨a4, b4, c4, d4⟩, ⟨a5, b5, c5, d5⟩, _⟩ := hs10
        have m100 : -1 ≤ q10.i 100 := by omega
        refine ⟨⟨?_, ?_, ⟨ite_ge m100 a0, ite_ge (Int.le_refl 0) b0, ite_ge (by decide : (0 : Int) ≤ 48) c0, ite_ge (by decide : (0 : Int) ≤ 48) d0⟩, ⟨ite_ge m100 a1, ite_ge (Int.le_refl 0) b1, ite_ge (by decide : (0 : Int) ≤ 48) c1, ite_ge (by decide : (0 : Int) ≤ 48) d1⟩, ⟨ite_ge m100 a2, ite_ge (Int.le_refl 0) b2, ite_ge (by decide : (0 : Int) ≤ 48) c2, ite_ge (by decide : (0 : Int) ≤ 48) d2⟩, ⟨ite_ge m100 a3, ite_ge (Int.le_refl 0) b3, ite_ge (by decide : (0 : Int) ≤ 48) c3, ite_ge (by decide : (0 : Int) ≤ 48) d3⟩, ⟨ite_ge m100 a4, ite_ge (Int.le_refl 0) b4, ite_ge (by decide : (0 : Int) ≤ 48) c4, ite_ge (by decide : (0 : Int) ≤ 48) d4⟩, ⟨ite_ge m100 a5, ite_ge (Int.le_refl 0) b5, ite_ge (by decide : (0 : Int) ≤ 48) c5, ite_ge (by decide : (0 : Int) ≤ 48) d5⟩, trivial⟩, ?_⟩
        · show 0 ≤ IntKind.i64.wrap (q10.i 60 + 1); rw [g10.i 60 (by omega)]; omega
        · show IntKind.i64.wrap (q10.i 60 + 1) ≤ 6; rw [g10.i 60 (by omega)]; omega
        · show (6 - IntKind.i64.wrap (q10.i 60 + 1)).toNat < (6 - q9.i 60).toNat; rw [g10.i 60 (by omega)]; omega
      · exact fin q10 _ _ (q10.i 100) 0 48 48 (G9.trans (g10.mono (by omega))) (ckNorms_agree g10 slots6 62 (by decide) hs) ⟨by omega, by decide, by decide, by decide⟩ rfl
      · exact fin q9 _ _ (-1) 0 0 0 G9 hs ⟨by decide, by decide, by decide, by decide⟩ rfl
end Go.Proofs.Ytngboefkhfldgaa.V2
