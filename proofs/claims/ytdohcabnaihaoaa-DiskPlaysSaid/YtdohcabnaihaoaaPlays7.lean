/- DiskPlays: of any number and any calls the law returns true. No condition. -/
import Derived.Test.YtdohcabnaihaoaaRfJ
import Derived.Test.YtdohcabnaihaoaaOpW
import Derived.ProofKit
import Derived.OpenShut
import Derived.Deep.Slices
import Derived.ChangeSame
set_option linter.unusedSimpArgs false
set_option linter.unusedVariables false
set_option linter.constructorNameAsVariable false
namespace Go.Proofs.Ytdohcabnaihaoaa.playsP
open Go Go.Sx Go.ChangeShapes Go.WideShapes Go.ChangeAt Go.RowKit Go.Deep

theorem rowK {H : Type} {enc : TypeId × Value → H} {P : Program} {W : World} {base : Nat} {spare : Nat → Bool} {held : Bool} {t : TypeId} {row : List Value} (h : Ex.okKs (Ex.trodΦ enc P W base spare held) row [.int .u8, .int .i64, .int .u8, .other t]) :
    ∃ k i m u, row = [.int .u8 k, .int .i64 i, .int .u8 m, u] ∧ (Lit.int .i64 i).wf = true ∧ (∃ a l c, u = Value.slice a l c) ∧ ∃ d p, DataW.Trod enc P W base spare held t u d p := by
  match row, Ex.okKs_length h with
  | [a, b, c, u], _ =>
    obtain ⟨⟨k, rfl, hk⟩, ⟨i, rfl, hi⟩, ⟨m, rfl, _⟩, hu, _⟩ := h
    have hsl : ∃ a l c, u = Value.slice a l c := Ex.trodΦ_sl u t hu
    obtain ⟨_, fuel, x, hx⟩ := hu
    refine ⟨k, i, m, u, rfl, hi, hsl, x.1, x.2, fuel, ?_⟩
    obtain ⟨a, l, c, rfl⟩ := hsl
    exact hx
set_option maxRecDepth 20000 in
theorem ops_of {H : Type} {enc : TypeId × Value → H} {W : World} {base b0 : Nat} {spare : Nat → Bool} {held : Bool} {r : Reach} {v : Value} {d : DataW H} {p : List MemPlace}
    (hv : Value.okWide Try.prog W r b0 39 v) (h : DataW.Trod enc Try.prog W base spare held 39 v d p) :
    ∃ rows, RdRows (Hl.all W) v opK7 rows ∧ ∀ row ∈ rows, ∃ b, opRow7 (Hl.all W) row b := by
  obtain ⟨rows, hR, hrow⟩ := rdRowsT Try.underlying39 (ks := [.int .u8, .int .i64, .int .u8, .other 22]) (dp := 3) (by kernel_rfl) (by kernel_rfl) (by decide) (okWide_slice Try.underlying39 hv) h
  refine ⟨rows, hR, fun row hr => ?_⟩
  obtain ⟨k, i, m, u, rfl, hw, hsl, d', p', hu⟩ := rowK (hrow row hr)
  obtain ⟨bs, h1, h2⟩ := bytes_of Try.underlying22 (dp := 1) (by kernel_rfl) (by kernel_rfl) hsl hu
  exact ⟨bs, k, i, m, u, rfl, by have := i64_wf hw; omega, h1, h2⟩

theorem own : ownKnob Try.prog.godebug = none := by kernel_rfl
theorem laidOut : laidOutB Try.prog = true := by kernel_rfl

set_option maxRecDepth 100000 in
theorem lifted (os : Os) (started : os.Started) (H : Type) (enc : TypeId × Value → H) :
    ReturnsInHanded {} Try.checked os 7 .any (Rows.diskPlaysSpec.pre6 enc Try.prog Try.f7 Rows.diskPlaysRow.domain false) (Rows.diskPlaysSpec.post enc Try.prog Try.f7 false true false false) := by
  refine returnsInHanded_of_change (C := Try.checked) own started (by kernel_rfl) Try.func7
    (ChangeSpec.witness6 (enc := enc) (C := Try.checked) false ⟨#[], #[.int .u8 0, .slice none 0 0], []⟩ 8 (by kernel_rfl) (by kernel_rfl) (by kernel_rfl) (by kernel_rfl)) ?_
  intro W base args ds gs before hval0 hW hcnd _
  have hval : ∀ (j : Nat) t v, Try.f7.params[j]? = some t → args[j]? = some v → Value.okWide Try.prog W .any base t v := hval0
  have hW' := hW
  obtain ⟨p, q, hA0, hV, rfl, hfz, hnd⟩ := hW
  have hA : DataW.TrodAll enc Try.prog W 0 (fun _ => true) true Try.f7.params.toList args.toList ds p := hA0
  rw [Try.params7] at hA hval
  obtain ⟨v0, vs0, d0, ds0, p0, q0, hargs, rfl, rfl, h0, r0⟩ := trodAll_cons hA
  obtain ⟨v1, vs1, d1, ds1, p1, q1, rfl, rfl, rfl, h1, r1⟩ := trodAll_cons r0
  obtain ⟨rfl, rfl, rfl⟩ := trodAll_nil r1
  obtain rfl : args = #[v0, v1] := by cases args; simp_all
  obtain ⟨rfl, rfl⟩ := trodVars_none hV
  have lt : ∀ {t v d} {ps : List MemPlace}, DataW.Trod enc Try.prog W 0 (fun _ => true) true t v d ps → ∀ x ∈ ps, x.block < W.heap.size := fun hk => by obtain ⟨m, hm⟩ := hk; exact DataW.trod_lt m _ _ _ hm
  have k0 := h0
  have k1 := h1
  clear hA0 hval0
  obtain ⟨nn, rfl⟩ : ∃ x, v0 = .int .u8 x := okWide_int Try.underlying5 (hval 0 5 v0 rfl rfl)
  have hr := u8_of Try.underlying5 h0
  obtain ⟨rows, hR, hops⟩ := ops_of (hval 1 39 v1 rfl rfl) h1
  have hcall : Calls Try.prog 7 #[.int .u8 nn, v1] W fun e w' => e = .returned (.bool true) ∧ Below W.heap.size W w' :=
    spec_yes playsS_ok rfl ⟨nn, v1, _, rows, rfl, rfl, hr, hR, hops⟩ (fun _ _ h => h)
  refine hcall.mono fun e W' ⟨he, bel⟩ => ?_
  subst he
  exact ⟨_, rfl, _, _, _, [], _, [], hW', trodAll_mk1 (shut_bool Try.underlying4 _), (trodAll_cons_mk (Below.trod laidOut (by kernel_rfl) (of_decide_eq_true (by kernel_rfl)) k0 bel (lt k0)) (trodAll_cons_mk (Below.trod laidOut (by kernel_rfl) (of_decide_eq_true (by kernel_rfl)) k1 bel (lt k1)) trodAll_mk0)), rfl, bel.frame _, fun h => by cases h⟩

theorem proved : Rows.DiskPlaysSaid :=
  OpenClaim.holds_of_wide 7 Try.f7 rfl rfl rfl rfl rfl rfl rfl ⟨rfl, rfl, rfl, rfl, rfl⟩ rfl rfl rfl rfl rfl (by kernel_rfl) Try.func7 (by kernel_rfl)
    (of_decide_eq_true (by kernel_rfl)) (by unfold Func.isWrapper; rw [if_neg (of_decide_eq_false (by kernel_rfl))]; exact ⟨rfl, rfl⟩)
    (fun os started H enc _ => lifted os started H enc)
end Go.Proofs.Ytdohcabnaihaoaa.playsP
