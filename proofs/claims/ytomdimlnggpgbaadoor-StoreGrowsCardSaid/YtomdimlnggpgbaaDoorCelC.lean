/- Layer 8: a head's half, and the head of a half, as contracts. No condition. -/
import Derived.Test.YtomdimlnggpgbaaDoorCelB
set_option linter.unusedSimpArgs false
set_option linter.unusedVariables false
set_option linter.constructorNameAsVariable false
namespace Go.Proofs.YtomdimlnggpgbaaDoor.D
open Go Go.Sx

def u8s (n : Nat) : List Ck := List.replicate n (.int .u8)
def hdk : List Ck := [.int .u64, .int .u64] ++ u8s 16
/-- A head's half. -/
def halfL (l : List Int) : List Int := be8 (l.getD 0 0) ++ be8 (l.getD 1 0) ++ (l.drop 2).take 16
def halfG (xs : List Value) : Value := match xs with
  | [v] => .agg (bys (halfL (intsOf v))).toArray
  | _ => .bool false
def halfN (xs : List Value) : Prop := match xs with
  | [v] => (0 ≤ (intsOf v).getD 0 0 ∧ (intsOf v).getD 0 0 < 18446744073709551616) ∧ 0 ≤ (intsOf v).getD 1 0 ∧ (intsOf v).getD 1 0 < 18446744073709551616
  | _ => False
def halfS : Sx.Spec := pureS 107 [.agg hdk] [.agg (u8s 32)] halfN halfG
def halfNd : Nd := .ext (.alloc 18) (.ext (.alloc 19) (.ext (.alloc 20) (.post [.dead, .dead, .dead] (.sv (.agg ([.int .u8 (.wrap .u8 (.shr .u64 (.var 0) (.lit 56))), .int .u8 (.wrap .u8 (.shr .u64 (.var 0) (.lit 48))), .int .u8 (.wrap .u8 (.shr .u64 (.var 0) (.lit 40))), .int .u8 (.wrap .u8 (.shr .u64 (.var 0) (.lit 32))), .int .u8 (.wrap .u8 (.shr .u64 (.var 0) (.lit 24))), .int .u8 (.wrap .u8 (.shr .u64 (.var 0) (.lit 16))), .int .u8 (.wrap .u8 (.shr .u64 (.var 0) (.lit 8))), .int .u8 (.wrap .u8 (.shr .u64 (.var 0) (.lit 0))), .int .u8 (.wrap .u8 (.shr .u64 (.var 1) (.lit 56))), .int .u8 (.wrap .u8 (.shr .u64 (.var 1) (.lit 48))), .int .u8 (.wrap .u8 (.shr .u64 (.var 1) (.lit 40))), .int .u8 (.wrap .u8 (.shr .u64 (.var 1) (.lit 32))), .int .u8 (.wrap .u8 (.shr .u64 (.var 1) (.lit 24))), .int .u8 (.wrap .u8 (.shr .u64 (.var 1) (.lit 16))), .int .u8 (.wrap .u8 (.shr .u64 (.var 1) (.lit 8))), .int .u8 (.wrap .u8 (.shr .u64 (.var 1) (.lit 0)))] ++ ckCVs 2 (List.replicate 16 (Ck.int .u8))))))))
def halfW : Walk Tryd.prog [] 107 where
  Λ := noLoops
  args := (cpSVs 0 [.agg hdk]).map .sv
  mem := []
  nv := 18
  nd := halfNd
  ok := by kernel_rfl
theorem wrap_u8 (x : Int) : IntKind.u8.wrap x = x % 256 := rfl
theorem shr_u64 {q : Env} {n : Nat} {x : Int} (h : q.i n = x) (h0 : 0 ≤ x) (k : Nat) : iev q (.wrap .u8 (.shr .u64 (.var n) (.lit k))) = x / 2 ^ (min k 64) % 256 := by
  rw [iev_wrap, wrap_u8, iev_shr, iev_var, h]
  show x.fdiv (2 ^ (min ((k : Int)).toNat 64)) % 256 = _
  rw [Int.toNat_natCast, Int.fdiv_eq_ediv_of_nonneg _ (Int.le_of_lt (Int.pow_pos (by omega)))]
theorem be8_ev {q : Env} {n : Nat} {x : Int} (h : q.i n = x) (h0 : 0 ≤ x) : [Value.int .u8 (iev q (.wrap .u8 (.shr .u64 (.var n) (.lit 56)))), Value.int .u8 (iev q (.wrap .u8 (.shr .u64 (.var n) (.lit 48)))), Value.int .u8 (iev q (.wrap .u8 (.shr .u64 (.var n) (.lit 40)))), Value.int .u8 (iev q (.wrap .u8 (.shr .u64 (.var n) (.lit 32)))), Value.int .u8 (iev q (.wrap .u8 (.shr .u64 (.var n) (.lit 24)))), Value.int .u8 (iev q (.wrap .u8 (.shr .u64 (.var n) (.lit 16)))), Value.int .u8 (iev q (.wrap .u8 (.shr .u64 (.var n) (.lit 8)))), Value.int .u8 (iev q (.wrap .u8 (.shr .u64 (.var n) (.lit 0))))] = (be8 x).map (Value.int .u8) := by
  have s := fun k => shr_u64 h h0 k
  have s56 : iev q (.wrap .u8 (.shr .u64 (.var n) (.lit 56))) = x / 72057594037927936 % 256 := s 56
  have s48 : iev q (.wrap .u8 (.shr .u64 (.var n) (.lit 48))) = x / 281474976710656 % 256 := s 48
  have s40 : iev q (.wrap .u8 (.shr .u64 (.var n) (.lit 40))) = x / 1099511627776 % 256 := s 40
  have s32 : iev q (.wrap .u8 (.shr .u64 (.var n) (.lit 32))) = x / 4294967296 % 256 := s 32
  have s24 : iev q (.wrap .u8 (.shr .u64 (.var n) (.lit 24))) = x / 16777216 % 256 := s 24
  have s16 : iev q (.wrap .u8 (.shr .u64 (.var n) (.lit 16))) = x / 65536 % 256 := s 16
  have s8 : iev q (.wrap .u8 (.shr .u64 (.var n) (.lit 8))) = x / 256 % 256 := s 8
  have s0 : iev q (.wrap .u8 (.shr .u64 (.var n) (.lit 0))) = x / 1 % 256 := s 0
  rw [s56, s48, s40, s32, s24, s16, s8, s0, Int.ediv_one]; rfl
set_option maxRecDepth 20000 in
theorem halfS_ok : halfS.OK Tryd.prog := by
  refine pure_of (fun t h => by cases h) halfW rfl rfl rfl (fun q _ _ => ?_) (fun q hq hN => ⟨fun _ _ => True, fun _ _ => 0, ?_⟩)
  · obtain ⟨ρ, _, _, e⟩ := row_rep (u8s 32) 0 (bys (halfL (intsOf ((SV.agg (ckCVs 0 hdk)).ev q)))) q (rowOK_bys 32 _ rfl)
    exact ⟨ρ, by show Value.agg _ = Value.agg ((ckCVs 0 (u8s 32)).map (CV.ev ρ)).toArray; rw [e]; rfl, ckNorms_pure _ _ _ (by decide), trivial⟩
  · have hN : (0 ≤ q.i 0 ∧ q.i 0 < 18446744073709551616) ∧ 0 ≤ q.i 1 ∧ q.i 1 < 18446744073709551616 := hN
    obtain ⟨⟨a0, a1⟩, b0, b1⟩ := hN
    show Nd.holds _ _ _ halfNd
    unfold halfNd
    simp only [Nd.holds, X.pre, X.rel, X.n]
    intro q1 g1 _ q2 g2 _ q3 g3 _
    have G : Agree 18 q q3 := (g1.trans (g2.mono (by omega))).trans (g3.mono (by omega))
    have e0 : q3.i 0 = q.i 0 := G.i 0 (by omega)
    have e1 : q3.i 1 = q.i 1 := G.i 1 (by omega)
    show Value.agg (List.map (CV.ev q3) (_ ++ _)).toArray = Value.agg (bys (be8 (q.i 0) ++ be8 (q.i 1) ++ (List.range 16).map fun j => q.i (2 + j))).toArray
    congr 2
    rw [List.map_append]
    unfold bys
    rw [List.map_append]
    congr 1
    · rw [List.map_append, ← be8_ev e0 a0, ← be8_ev e1 b0]; rfl
    · have := CV.agreeL (G.mono (by decide)) _ (ckCVs_upto (u8s 16) 2)
      unfold u8s at this
      rw [this]
      rfl
end Go.Proofs.YtomdimlnggpgbaaDoor.D
