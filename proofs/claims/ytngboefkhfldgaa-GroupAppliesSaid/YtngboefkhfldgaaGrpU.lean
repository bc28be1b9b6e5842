/- Layer 17: group.May, group.Behind as contracts of values (second engine). No condition. -/
import Derived.Test.YtngboefkhfldgaaGrpT
import Derived.Test.YtngboefkhfldgaaGrp4
set_option linter.unusedSimpArgs false
set_option linter.unusedVariables false
set_option linter.constructorNameAsVariable false
namespace Go.Proofs.Ytngboefkhfldgaa.V2
open Go Go.Sx

/-- A group as a value's cells tell it. -/
def gOfV (v : Value) : Grp := ⟨atI v 0, atI v 1, atI v 20, fun k => decide (k < 6) && atB v (2 + k), fun k => decide (k < 6) && atB v (8 + k), fun k => if k < 6 then atI v (14 + k) else 0⟩
def gV (g : Grp) : Value := .agg (G g)
theorem gV_of (q : Env) (n : Nat) : (SV.agg (ckCVs n gk2)).ev q = gV (gOfV ((SV.agg (ckCVs n gk2)).ev q)) := rfl
theorem shape_group (g : Grp) : shapeOK [.agg gk2] (gV g) :=
  ⟨⟨fun j => match j with | 0 => g.owner | 1 => g.epoch | 14 => g.cut 0 | 15 => g.cut 1 | 16 => g.cut 2 | 17 => g.cut 3 | 18 => g.cut 4 | 19 => g.cut 5 | 20 => g.seen | _ => 0,
    fun j => match j with | 2 => g.mem 0 | 3 => g.mem 1 | 4 => g.mem 2 | 5 => g.mem 3 | 6 => g.mem 4 | 7 => g.mem 5 | 8 => g.gone 0 | 9 => g.gone 1 | 10 => g.gone 2 | 11 => g.gone 3 | 12 => g.gone 4 | 13 => g.gone 5 | _ => false,
    fun _ => .empty, fun _ => .tuple #[], fun _ => Hl.none⟩, rfl, ⟨trivial, trivial, trivial, trivial, trivial, trivial, trivial, trivial, trivial, trivial, trivial, trivial, trivial, trivial, trivial, trivial, trivial, trivial, trivial, trivial, trivial, trivial⟩, trivial⟩

def mayG (xs : List Value) : Value := match xs with
  | [g, .int _ n, .int _ op, .int _ m] => .int .i64 (mayOf (gOfV g) n op m)
  | _ => .bool false
def mayS2 : Sx.Spec := pureS 9 [.agg gk2, .one i64, .one i64, .one i64] [.one i64] (fun _ => True) mayG
theorem mayS2_ok : mayS2.OK Try.prog := by
  refine pure_of_calls (fun q _ _ => shape_int _ _) (fun q w _ _ => ?_)
  exact May_any (gOfV ((SV.agg (ckCVs 0 gk2)).ev q)) (q.i 21) (q.i 22) (q.i 23) w
def behindG (xs : List Value) : Value := match xs with
  | [g, .int _ n, .int _ op, .int _ m, .int _ c] => gV (behind (gOfV g) n op m c)
  | _ => .bool false
def behindS2 : Sx.Spec := pureS 10 [.agg gk2, .one i64, .one i64, .one i64, .one (.int .u64)] [.agg gk2] (fun _ => True) behindG
theorem behindS2_ok : behindS2.OK Try.prog := by
  refine pure_of_calls (fun q _ _ => shape_group _) (fun q w _ _ => ?_)
  exact Behind_any (gOfV ((SV.agg (ckCVs 0 gk2)).ev q)) (q.i 21) (q.i 22) (q.i 23) (q.i 24) w
end Go.Proofs.Ytngboefkhfldgaa.V2
