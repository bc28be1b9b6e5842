/- CellsCrashes: of any calls and any fate the law returns true. No condition. -/
import Derived.Test.YtnpepkjfeadbjaaCrC
import Derived.Test.YtnpepkjfeadbjaaOpX
import Derived.ProofKit
import Derived.OpenShut
import Derived.Deep.Slices
import Derived.ChangeSame
import Derived.SizedLaws
set_option linter.unusedSimpArgs false
set_option linter.unusedVariables false
set_option linter.constructorNameAsVariable false
namespace Go.Proofs.Ytnpepkjfeadbjaa.crashesP
open Go Go.Sx Go.ChangeShapes Go.WideShapes Go.ChangeAt Go.RowKit Go.Deep

set_option maxRecDepth 20000 in
theorem ops_of {H : Type} {enc : TypeId × Value → H} {W : World} {base b0 : Nat} {spare : Nat → Bool} {held : Bool} {r : Reach} {v : Value} {d : DataW H} {p : List MemPlace}
    (hv : Value.okWide Try.prog W r b0 49 v) (h : DataW.Trod enc Try.prog W base spare held 49 v d p) (hwt : ∀ n ∈ d.weights Try.prog 49, n ≤ reachBytes) :
    ∃ rows, RdRows (Hl.all W) v opK rows ∧ ∀ row ∈ rows, ∃ b, opRow2 (Hl.all W) row b := by
  obtain ⟨rows, hR, hrow⟩ := rdRowsU Try.underlying49 (ks := [.int .u8, .int .u8, .int .i64, .other 26]) (dp := 3) (by kernel_rfl) (by kernel_rfl) (by decide) (okWide_slice Try.underlying49 hv) h hwt
  refine ⟨rows, hR, fun row hr => ?_⟩
  obtain ⟨k, m, i, u, rfl, _, hm, hi, ⟨a, l, c, rfl, hlen⟩, d', p', hu⟩ := row4u Try.underlying26 (by kernel_rfl) (hrow row hr)
  obtain ⟨bs, h1, h2⟩ := bytes_of Try.underlying26 (dp := 1) (by kernel_rfl) (by kernel_rfl) ⟨a, l, c, rfl⟩ hu
  have hi := i64_wf hi
  refine ⟨bs, k, m, i, _, rfl, u8_wf hm, by omega, h1, h2, ?_⟩
  obtain ⟨x', y', c', he, _⟩ := h1
  simp only [Value.slice.injEq] at he
  rw [← he.2.1]; exact hlen

theorem own : ownKnob Try.prog.godebug = none := by kernel_rfl
theorem laidOut : laidOutB Try.prog = true := by kernel_rfl

set_option maxRecDepth 100000 in
theorem lifted (os : Os) (started : os.Started) (H : Type) (enc : TypeId × Value → H) :
    ReturnsInHanded {} Try.checked os 6 .any (Rows.cellsCrashesSpec.pre6 enc Try.prog Try.f6 Rows.cellsCrashesRow.domain false) (Rows.cellsCrashesSpec.post enc Try.prog Try.f6 false true false false) := by
  refine returnsInHanded_of_change_sized (C := Try.checked) own started (by kernel_rfl) Try.func6
    (ChangeSpec.witness6 (enc := enc) (C := Try.checked) false ⟨#[], #[.slice none 0 0, .slice none 0 0], []⟩ 8 (by kernel_rfl) (by kernel_rfl) (by kernel_rfl) (by kernel_rfl)) ?_
  intro W base args ds gs before hval0 hW hcnd hsz0 _
  have hval : ∀ (j : Nat) t v, Try.f6.params[j]? = some t → args[j]? = some v → Value.okWide Try.prog W .any base t v := hval0
  have hW' := hW
  obtain ⟨p, q, hA0, hV, rfl, hfz, hnd⟩ := hW
  have hA : DataW.TrodAll enc Try.prog W 0 (fun _ => true) true Try.f6.params.toList args.toList ds p := hA0
  have hsz : (DataW.weightsEach Try.prog (Try.f6.params.toList ++ Rows.cellsCrashesSpec.plain.varTypes Try.prog) (ds ++ gs)).all (· ≤ reachBytes) = true := hsz0
  rw [Try.params6] at hA hval hsz
  obtain ⟨v0, vs0, d0, ds0, p0, q0, hargs, rfl, rfl, h0, r0⟩ := trodAll_cons hA
  obtain ⟨v1, vs1, d1, ds1, p1, q1, rfl, rfl, rfl, h1, r1⟩ := trodAll_cons r0
  obtain ⟨rfl, rfl, rfl⟩ := trodAll_nil r1
  obtain rfl : args = #[v0, v1] := by cases args; simp_all
  obtain ⟨rfl, rfl⟩ := trodVars_none hV
  have lt : ∀ {t v d} {ps : List MemPlace}, DataW.Trod enc Try.prog W 0 (fun _ => true) true t v d ps → ∀ x ∈ ps, x.block < W.heap.size := fun hk => by obtain ⟨m, hm⟩ := hk; exact DataW.trod_lt m _ _ _ hm
  have k0 := h0
  have k1 := h1
  clear hA0 hval0
  have w0 : ∀ n ∈ d0.weights Try.prog 49, n ≤ reachBytes := fun n hn => of_decide_eq_true (List.all_eq_true.1 hsz _ (DataW.weights_mem_each (j := 0) rfl rfl n hn))
  obtain ⟨rows, hR, hops⟩ := ops_of (hval 0 49 v0 rfl rfl) h0 w0
  obtain ⟨F, hF, hFb⟩ := bytes_of Try.underlying26 (dp := 1) (by kernel_rfl) (by kernel_rfl) (okWide_slice Try.underlying26 (hval 1 26 v1 rfl rfl)) h1
  have hcall : Calls Try.prog 6 #[v0, v1] W fun e w' => e = .returned (.bool true) ∧ Below W.heap.size W w' :=
    spec_yes crashesS_ok rfl ⟨v0, v1, _, _, rows, F, rfl, rfl, hR, hops, hF, hFb⟩ (fun _ _ h => h)
  refine hcall.mono fun e W' ⟨he, bel⟩ => ?_
  subst he
  exact ⟨_, rfl, _, _, _, [], _, [], hW', trodAll_mk1 (shut_bool Try.underlying4 _), (trodAll_cons_mk (Below.trod laidOut (by kernel_rfl) (of_decide_eq_true (by kernel_rfl)) k0 bel (lt k0)) (trodAll_cons_mk (Below.trod laidOut (by kernel_rfl) (of_decide_eq_true (by kernel_rfl)) k1 bel (lt k1)) trodAll_mk0)), rfl, bel.frame _, fun h => by cases h⟩

theorem proved : Rows.CellsCrashesSaid :=
  OpenClaim.holds_of_wide 6 Try.f6 rfl rfl rfl rfl rfl rfl rfl ⟨rfl, rfl, rfl, rfl, rfl⟩ rfl rfl rfl rfl rfl (by kernel_rfl) Try.func6 (by kernel_rfl)
    (of_decide_eq_true (by kernel_rfl)) (by unfold Func.isWrapper; rw [if_neg (of_decide_eq_false (by kernel_rfl))]; exact ⟨rfl, rfl⟩)
    (fun os started H enc _ => lifted os started H enc)
end Go.Proofs.Ytnpepkjfeadbjaa.crashesP
