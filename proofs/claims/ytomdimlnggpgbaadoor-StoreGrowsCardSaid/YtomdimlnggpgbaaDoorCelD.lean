/- Layer 8: the head of a half, as a contract. No condition. -/
import Derived.Test.YtomdimlnggpgbaaDoorCelC
set_option linter.unusedSimpArgs false
set_option linter.unusedVariables false
set_option linter.constructorNameAsVariable false
namespace Go.Proofs.YtomdimlnggpgbaaDoor.D
open Go Go.Sx

/-- The cells of a half's head. -/
def headV (l : List Int) : List Value := [.int .u64 (bigI (l.take 8)), .int .u64 (bigI ((l.drop 8).take 8))] ++ bys ((l.drop 16).take 16)
def headOfG (xs : List Value) : Value := match xs with
  | [v] => .agg (headV (intsOf v)).toArray
  | _ => .bool false
def headOfS : Sx.Spec := pureS 76 [.agg (u8s 32)] [.agg hdk] (fun _ => True) headOfG
def headOfNd : Nd := .ext (.alloc 32) (.ext (.alloc 33) (.and (.pre (.call 0 34 [.sv (.one (.sl (.var 32) (.lit 0) (.lit 8) (.lit 32)))] [] [.blk 32 (ckCVs 0 (List.replicate 32 (Ck.int .u8))) 136])) (.ext (.call 0 34 [.sv (.one (.sl (.var 32) (.lit 0) (.lit 8) (.lit 32)))] [] [.blk 32 (ckCVs 0 (List.replicate 32 (Ck.int .u8))) 136]) (.and (.pre (.call 0 35 [.sv (.one (.sl (.var 32) (.lit 8) (.lit 8) (.lit 24)))] [] [.blk 32 (ckCVs 0 (List.replicate 32 (Ck.int .u8))) 136])) (.ext (.call 0 35 [.sv (.one (.sl (.var 32) (.lit 8) (.lit 8) (.lit 24)))] [] [.blk 32 (ckCVs 0 (List.replicate 32 (Ck.int .u8))) 136]) (.post [.dead, .dead] (.sv (.agg ([.int .u64 (.var 34), .int .u64 (.var 35)] ++ ckCVs 16 (List.replicate 16 (Ck.int .u8)))))))))))
def headΓ : List Sx.Spec := [bigS]
theorem headΓ_ok : ∀ t ∈ headΓ, t.OK Tryd.prog := fun t ht => by
  rw [headΓ, List.mem_singleton] at ht; subst ht; exact bigS_ok
def headOfW : Walk Tryd.prog headΓ 76 where
  Λ := noLoops
  args := (cpSVs 0 [.agg (u8s 32)]).map .sv
  mem := []
  nv := 32
  nd := headOfNd
  ok := by kernel_rfl
theorem hg0 : headΓ[0]? = some bigS := rfl
theorem hr0 : bigS.res = [.one (.int .u64)] := rfl
theorem rdBlk {a : Int} (h0 : 0 ≤ a) (vs : List Int) (o n c : Nat) (T : TypeId) (hn : o + n ≤ vs.length) : RdW (Hl.one a.toNat (.cells (bys vs).toArray T (0, 0))) (.slice (slP a (o : Int)) n c) ((vs.drop o).take n) := by
  have hl : ((vs.drop o).take n).length = n := by rw [List.length_take, List.length_drop]; omega
  refine ⟨a, o, c, by rw [hl], by omega, Or.inr ⟨h0, fun j z hz => ?_⟩⟩
  rw [Hl.one_cell, List.getElem?_toArray, bys_get, Int.toNat_natCast]
  rw [List.getElem?_take] at hz
  split at hz
  · rw [List.getElem?_drop] at hz; rw [hz]; rfl
  · cases hz
set_option maxRecDepth 20000 in
theorem headOfS_ok : headOfS.OK Tryd.prog := by
  refine pure_of headΓ_ok headOfW rfl rfl rfl (fun q _ _ => ?_) (fun q hq hN => ⟨fun _ _ => True, fun _ _ => 0, ?_⟩)
  · obtain ⟨ρ, _, _, e⟩ := row_rep hdk 0 (headV (intsOf ((SV.agg (ckCVs 0 (u8s 32))).ev q))) q ⟨by simp [valIs, kdOf], by simp [valIs, kdOf], rowOK_bys 16 _ rfl⟩
    exact ⟨ρ, by show Value.agg _ = Value.agg ((ckCVs 0 hdk).map (CV.ev ρ)).toArray; rw [e]; rfl, ckNorms_pure _ _ _ (by decide), trivial⟩
  · show Nd.holds _ _ _ headOfNd
    unfold headOfNd
    simp only [Nd.holds, X.pre, X.rel, X.n, hg0, hr0, newHs_zero, cpTV, Cp.sv, Ck.cv, cpSVs, Cp.len, Ck.len, newHs_zero, newHs_one, roots_ne, TV.ev, SV.ev, CV.ev, List.map_cons, List.map_nil, Res.hl, iev_var, iev_lit]
    intro q1 g1 a1 q2 g2 a2
    obtain ⟨L, hL⟩ : ∃ L, L = (List.range 32).map fun j => q.i j := ⟨_, rfl⟩
    have hLl : L.length = 32 := by rw [hL]; rfl
    have G2 : Agree 32 q q2 := g1.trans (g2.mono (by omega))
    have cells : ∀ q', Agree 32 q q' → List.map (CV.ev q') (ckCVs 0 (List.replicate 32 (Ck.int .u8))) = bys L := by
      intro q' g
      have := CV.agreeL (g.mono (by decide)) _ (ckCVs_upto (u8s 32) 0)
      unfold u8s at this
      rw [this, hL]; rfl
    rw [cells q2 G2]
    have p2 : 0 ≤ q2.i 32 := by rw [g2.i 32 (by omega)]; exact a1
    refine ⟨⟨_, L.take 8, _, rfl, rfl, rdBlk p2 L 0 8 32 _ (by omega), by rw [List.length_take]; omega⟩, fun q3 g3 ⟨_, ⟨u, bs, R, hx, hR, hrd, hv⟩, _⟩ => ?_⟩
    cases hx; cases hR
    have e1 := hrd.uniq (rdBlk p2 L 0 8 32 _ (by omega))
    have G3 : Agree 32 q q3 := G2.trans (g3.mono (by omega))
    rw [cells q3 G3]
    have p3 : 0 ≤ q3.i 32 := by rw [g3.i 32 (by omega)]; exact p2
    refine ⟨⟨_, (L.drop 8).take 8, _, rfl, rfl, rdBlk p3 L 8 8 24 _ (by omega), by rw [List.length_take]; omega⟩, fun q4 g4 ⟨_, ⟨u, bs2, R, hx, hR, hrd2, hv2⟩, _⟩ => ?_⟩
    cases hx; cases hR
    have e2 := hrd2.uniq (rdBlk p3 L 8 8 24 _ (by omega))
    have G4 : Agree 32 q q4 := G3.trans (g4.mono (by omega))
    simp only [Value.int.injEq, true_and] at hv hv2
    have hv : q4.i 34 = bigI (L.take 8) := by rw [g4.i 34 (by omega), hv, e1]; rfl
    have hv2 : q4.i 35 = bigI ((L.drop 8).take 8) := by rw [hv2, e2]
    show Value.agg (List.map (CV.ev q4) (_ ++ _)).toArray = Value.agg (headV ((List.range 32).map fun j => q.i j)).toArray
    rw [← hL]
    congr 2
    rw [List.map_append]
    unfold headV
    congr 1
    · show [Value.int .u64 (q4.i 34), Value.int .u64 (q4.i 35)] = _
      rw [hv, hv2]
    · have := CV.agreeL (G4.mono (by decide)) _ (ckCVs_upto (u8s 16) 16)
      unfold u8s at this
      rw [this, hL]
      rfl
end Go.Proofs.YtomdimlnggpgbaaDoor.D
