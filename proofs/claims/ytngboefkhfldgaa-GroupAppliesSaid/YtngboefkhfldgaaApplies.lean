/- GroupApplies: whatever steps, headers and controls are given, the law returns true, and they read as they did. No condition. -/
import Derived.Test.YtngboefkhfldgaaGrpB
import Derived.Test.YtngboefkhfldgaaOpH
import Derived.ProofKit
import Derived.OpenShut
import Derived.Deep.Slices
import Derived.ChangeSame
set_option linter.unusedSimpArgs false
set_option linter.unusedVariables false
set_option linter.constructorNameAsVariable false
namespace Go.Proofs.Ytngboefkhfldgaa.appliesP
open Go Go.Sx Go.ChangeShapes Go.WideShapes Go.ChangeAt Go.RowKit Go.Deep

def kc : List Ex.Kt := [.int .i64, .int .i64, .int .u64] ++ List.replicate 7 (.other 47)
theorem kc_eq : Ex.kindsT2 Try.prog 6 50 = some kc := by kernel_rfl
/-- Of any steps, headers, controls. -/
theorem any {H : Type} {enc : TypeId × Value → H} {W : World} {base b0 : Nat} {spare : Nat → Bool} {held : Bool} {r : Reach} {v0 v1 v2 : Value} {d0 d1 d2 : DataW H} {p0 p1 p2 : List MemPlace}
    (hv0 : Value.okWide Try.prog W r b0 22 v0) (h0 : DataW.Trod enc Try.prog W base spare held 22 v0 d0 p0)
    (hv1 : Value.okWide Try.prog W r b0 38 v1) (h1 : DataW.Trod enc Try.prog W base spare held 38 v1 d1 p1)
    (hv2 : Value.okWide Try.prog W r b0 39 v2) (h2 : DataW.Trod enc Try.prog W base spare held 39 v2 d2 p2) :
    Calls Try.prog 6 #[v0, v1, v2] W fun e w' => e = .returned (.bool true) ∧ Below W.heap.size W w' := by
  obtain ⟨L, hL, _⟩ := rdRows_of Try.underlying22 (ks := V2.skd) (dp := 5) (by kernel_rfl) (by kernel_rfl) (by decide) (okWide_slice Try.underlying22 hv0) h0
  obtain ⟨Hs, hH, okH⟩ := rdRowsT Try.underlying38 (ks := opH.kh) (dp := 6) opH.kh_eq (by kernel_rfl) (of_decide_eq_true (by kernel_rfl)) (okWide_slice Try.underlying38 hv1) h1
  obtain ⟨Cs, hC, _⟩ := rdRowsT Try.underlying39 (ks := kc) (dp := 6) kc_eq (by kernel_rfl) (of_decide_eq_true (by kernel_rfl)) (okWide_slice Try.underlying39 hv2) h2
  rw [show opH.kh.map ktKd = V2.hkd by kernel_rfl] at hH
  rw [show kc.map ktKd = V2.ckd by kernel_rfl] at hC
  refine spec_yes V2.appliesS_ok rfl ⟨v0, v1, v2, W, L, Hs, Cs, rfl, rfl, hL, hH, hC, fun h hh ht => ?_⟩ (fun _ _ h => h)
  obtain ⟨p, e1, e53, hn, hf⟩ := opH.hdr_of (okH h hh)
  refine ⟨W, p, rfl, e1, hf ?_⟩
  unfold V2.tokN at ht
  rw [e53] at ht
  have ht : ((p.i 55).toNat : Int) ≤ 20 := ht
  omega

theorem own : ownKnob Try.prog.godebug = none := by kernel_rfl
theorem laidOut : laidOutB Try.prog = true := by kernel_rfl

set_option maxRecDepth 100000 in
theorem lifted (os : Os) (started : os.Started) (H : Type) (enc : TypeId × Value → H) :
    ReturnsInHanded {} Try.checked os 6 .any (Rows.groupAppliesSpec.pre6 enc Try.prog Try.f6 Rows.groupAppliesRow.domain false) (Rows.groupAppliesSpec.post enc Try.prog Try.f6 false true false false) := by
  refine returnsInHanded_of_change (C := Try.checked) own started (by kernel_rfl) Try.func6
    (ChangeSpec.witness6 (enc := enc) (C := Try.checked) false ⟨#[], #[.slice none 0 0, .slice none 0 0, .slice none 0 0], []⟩ 8 (by kernel_rfl) (by kernel_rfl) (by kernel_rfl) (by kernel_rfl)) ?_
  intro W base args ds gs before hval0 hW hcnd _
  have hval : ∀ (j : Nat) t v, Try.f6.params[j]? = some t → args[j]? = some v → Value.okWide Try.prog W .any base t v := hval0
  have hW' := hW
  obtain ⟨p, q, hA0, hV, rfl, hfz, hnd⟩ := hW
  have hA : DataW.TrodAll enc Try.prog W 0 (fun _ => true) true Try.f6.params.toList args.toList ds p := hA0
  rw [Try.params6] at hA hval
  obtain ⟨v0, vs0, d0, ds0, p0, q0, hargs, rfl, rfl, h0, r0⟩ := trodAll_cons hA
  obtain ⟨v1, vs1, d1, ds1, p1, q1, rfl, rfl, rfl, h1, r1⟩ := trodAll_cons r0
  obtain ⟨v2, vs2, d2, ds2, p2, q2, rfl, rfl, rfl, h2, r2⟩ := trodAll_cons r1
  obtain ⟨rfl, rfl, rfl⟩ := trodAll_nil r2
  obtain rfl : args = #[v0, v1, v2] := by cases args; simp_all
  obtain ⟨rfl, rfl⟩ := trodVars_none hV
  have lt : ∀ {t v d} {ps : List MemPlace}, DataW.Trod enc Try.prog W 0 (fun _ => true) true t v d ps → ∀ x ∈ ps, x.block < W.heap.size := fun hk => by obtain ⟨m, hm⟩ := hk; exact DataW.trod_lt m _ _ _ hm
  have k0 := h0
  have k1 := h1
  have k2 := h2
  clear hA0 hval0
  have hcall := any (hval 0 22 v0 rfl rfl) h0 (hval 1 38 v1 rfl rfl) h1 (hval 2 39 v2 rfl rfl) h2
  refine hcall.mono fun e W' ⟨he, bel⟩ => ?_
  subst he
  exact ⟨_, rfl, _, _, _, [], _, [], hW', trodAll_mk1 (shut_bool Try.underlying4 _), (trodAll_cons_mk (Below.trod laidOut (by kernel_rfl) (of_decide_eq_true (by kernel_rfl)) k0 bel (lt k0)) (trodAll_cons_mk (Below.trod laidOut (by kernel_rfl) (of_decide_eq_true (by kernel_rfl)) k1 bel (lt k1)) (trodAll_cons_mk (Below.trod laidOut (by kernel_rfl) (of_decide_eq_true (by kernel_rfl)) k2 bel (lt k2)) trodAll_mk0))), rfl, bel.frame _, fun h => by cases h⟩

theorem proved : Rows.GroupAppliesSaid :=
  OpenClaim.holds_of_wide 6 Try.f6 rfl rfl rfl rfl rfl rfl rfl ⟨rfl, rfl, rfl, rfl, rfl⟩ rfl rfl rfl rfl rfl (by kernel_rfl) Try.func6 (by kernel_rfl)
    (of_decide_eq_true (by kernel_rfl)) (by unfold Func.isWrapper; rw [if_neg (of_decide_eq_false (by kernel_rfl))]; exact ⟨rfl, rfl⟩)
    (fun os started H enc _ => lifted os started H enc)
end Go.Proofs.Ytngboefkhfldgaa.appliesP
