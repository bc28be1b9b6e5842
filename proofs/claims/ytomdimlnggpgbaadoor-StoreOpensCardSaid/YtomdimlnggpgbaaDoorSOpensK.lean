/- StoreOpens: of any two texts and generations the law returns true; the card. No condition. -/
import Derived.Test.YtomdimlnggpgbaaDoorTie
import Derived.Test.YtomdimlnggpgbaaDoorCards
import Derived.ProofKit
import Derived.OpenShut
import Derived.Deep.Slices
import Derived.ChangeSame
import Derived.SevenTiedAt
import Derived.Test.YtomdimlnggpgbaaDoorQf
set_option linter.unusedSimpArgs false
set_option linter.unusedVariables false
set_option linter.constructorNameAsVariable false
namespace Go.Proofs.YtomdimlnggpgbaaDoor.opensP
open Go Go.Sx Go.ChangeShapes Go.WideShapes Go.ChangeAt Go.RowKit Go.Deep
section
variable {H : Type} {enc : TypeId × Value → H} {W : World} {base : Nat} {spare : Nat → Bool} {held : Bool} {d : DataW H} {p : List MemPlace}
theorem bytesC_of {v : Value} (hv : ∃ a l c, v = .slice a l c) (h : DataW.Trod enc Tryd.prog W base spare held 30 v d p) :
    ∃ (x y : Int) (c : Nat) (bs : List Int), v = .slice (slP x y) bs.length c ∧ 0 ≤ y ∧ bs.length ≤ c ∧ RdW (Hl.all W) (.slice (slP x y) bs.length c) bs ∧ bytes256 bs := by
  obtain ⟨bs, hR, hb⟩ := bytes_of Tryd.underlying30 (dp := 1) (by kernel_rfl) (by kernel_rfl) hv h
  obtain ⟨fuel, hf⟩ := h
  obtain ⟨x, y, c, e, hy, hc⟩ := id hR
  refine ⟨x, y, c, bs, e, hy, ?_, by rw [← e]; exact hR, hb⟩
  rcases open_rows Tryd.underlying30 (dp := 1) (ks := [.int .u8]) (by kernel_rfl) (by kernel_rfl) hf with h | ⟨a, len, cap, hcs, hl, _⟩
  · rw [e] at h
    simp only [Value.cells, List.cons.injEq, Value.slice.injEq, and_true] at h
    omega
  · rw [e] at hcs
    simp only [Value.cells, List.cons.injEq, Value.slice.injEq, and_true] at hcs
    omega
theorem two_of {r : Reach} {b0 : Nat} {v : Value} (hv : Value.okWide Tryd.prog W r b0 37 v) (h : DataW.Trod enc Tryd.prog W base spare held 37 v d p) : ∃ ga gb : Int, v = .agg #[.int .u64 ga, .int .u64 gb] ∧ (0 ≤ ga ∧ ga < 18446744073709551616) ∧ (0 ≤ gb ∧ gb < 18446744073709551616) := by
  simp only [Value.okWide, Tryd.underlying37] at hv
  obtain ⟨cs, rfl, _⟩ := hv
  obtain ⟨fuel, hf⟩ := h
  have hk := trod_kinds 2 _ [Kd.int .u64, Kd.int .u64] fuel _ _ (by kernel_rfl) hf
  obtain ⟨l⟩ := cs
  simp only [Value.cells] at hk
  match l, hk with
  | [u, v], ⟨⟨n, hu, h1⟩, ⟨m, hv, h2⟩, _⟩ => exact ⟨n, m, by rw [hu, hv], u64_wf h1, u64_wf h2⟩
end
theorem own : ownKnob Tryd.prog.godebug = none := by kernel_rfl
theorem laidOut : laidOutB Tryd.prog = true := by kernel_rfl
set_option maxRecDepth 100000 in
theorem lifted (os : Os) (started : os.Started) (H : Type) (enc : TypeId × Value → H) :
    ReturnsInHanded {} Tryd.checked os 4 .any (fun w args => (Rows.storeOpensSpec.pre enc Tryd.prog Tryd.f4 Rows.storeOpensRow.domain false w args ∧ laidMetH Tryd.prog laid3 w) ∧ sizedMet enc Tryd.prog Tryd.f4 (OpenSpec.ofChange Rows.storeOpensSpec) false w args) (Rows.storeOpensSpec.post enc Tryd.prog Tryd.f4 false true false false) := by
  refine returnsInHanded_of_change_and (C := Tryd.checked) (X := fun w _ => laidMetH Tryd.prog laid3 w) (fun _ _ _ hh h => h.of_heap hh) own started (by kernel_rfl) Tryd.func4
    (ChangeSpec.witness_shaped (enc := enc) (C := Tryd.checked) (os := os) (X := fun w _ => laidMetH Tryd.prog laid3 w) false (World.doorLaid Tryd.prog 400 os) #[.slice none 0 0, .slice none 0 0, .agg #[.int .u64 0, .int .u64 0]] 8 rfl (World.shaped_of_RefB (by kernel_rfl) (by kernel_rfl)) (by kernel_rfl) (by kernel_rfl) (by kernel_rfl) (door_met os _)) ?_
  intro W base args ds gs before hval0 hW hcnd _ hL _
  have hval : ∀ (j : Nat) t v, Tryd.f4.params[j]? = some t → args[j]? = some v → Value.okWide Tryd.prog W .any base t v := hval0
  have hW' := hW
  obtain ⟨p, q, hA0, hV, rfl, hfz, hnd⟩ := hW
  have hA : DataW.TrodAll enc Tryd.prog W 0 (fun _ => true) true Tryd.f4.params.toList args.toList ds p := hA0
  rw [Tryd.params4] at hA hval
  obtain ⟨v0, vs0, d0, ds0, p0, q0, hargs, rfl, rfl, h0, r0⟩ := trodAll_cons hA
  obtain ⟨v1, vs1, d1, ds1, p1, q1, rfl, rfl, rfl, h1, r1⟩ := trodAll_cons r0
  obtain ⟨v2, vs2, d2, ds2, p2, q2, rfl, rfl, rfl, h2, r2⟩ := trodAll_cons r1
  obtain ⟨rfl, rfl, rfl⟩ := trodAll_nil r2
  obtain rfl : args = #[v0, v1, v2] := by cases args; simp_all
  obtain ⟨rfl, rfl⟩ := trodVars_none hV
  have lt : ∀ {t v d} {ps : List MemPlace}, DataW.Trod enc Tryd.prog W 0 (fun _ => true) true t v d ps → ∀ x ∈ ps, x.block < W.heap.size := fun hk => by obtain ⟨m, hm⟩ := hk; exact DataW.trod_lt m _ _ _ hm
  have k0 := h0
  have k1 := h1
  have k2 := h2
  clear hA0 hval0
  obtain ⟨x1, y1, c1, a, e0, hy1, hc1, hR1, hb1⟩ := bytesC_of (okWide_slice Tryd.underlying30 (hval 0 30 v0 rfl rfl)) h0
  obtain ⟨x2, y2, c2, b, e1, hy2, hc2, hR2, hb2⟩ := bytesC_of (okWide_slice Tryd.underlying30 (hval 1 30 v1 rfl rfl)) h1
  obtain ⟨ga, gb, e2, hga, hgb⟩ := two_of (hval 2 37 v2 rfl rfl) h2
  obtain ⟨g, hG⟩ := gl_of_laid hL
  have hcall : Calls Tryd.prog 4 #[v0, v1, v2] W fun e w' => e = .returned (.bool true) ∧ Below W.heap.size W w' :=
    spec_yes sopsS_ok rfl ⟨x1, y1, c1, x2, y2, c2, a, b, ga, gb, _, _, g, by rw [e0, e1, e2], rfl, hR1, hR2, hy1, hy2, hc1, hc2, hb1, hb2, hga, hgb, hG⟩ (fun _ _ h => h)
  refine hcall.mono fun e W' ⟨he, bel⟩ => ?_
  subst he
  exact ⟨_, rfl, _, _, _, [], _, [], hW', trodAll_mk1 (shut_bool Tryd.underlying4 _), (trodAll_cons_mk (Below.trod laidOut (by kernel_rfl) (of_decide_eq_true (by kernel_rfl)) k0 bel (lt k0)) (trodAll_cons_mk (Below.trod laidOut (by kernel_rfl) (of_decide_eq_true (by kernel_rfl)) k1 bel (lt k1)) (trodAll_cons_mk (Below.trod laidOut (by kernel_rfl) (of_decide_eq_true (by kernel_rfl)) k2 bel (lt k2)) trodAll_mk0))), rfl, bel.frame _, fun h => by cases h⟩
theorem rowProved : Rows.StoreOpensSaid :=
  OpenClaim.holds_of_wide 4 Tryd.f4 rfl rfl rfl rfl rfl rfl rfl ⟨rfl, rfl, rfl, rfl, rfl⟩ rfl rfl rfl rfl rfl (by kernel_rfl) Tryd.func4 (by kernel_rfl)
    (of_decide_eq_true (by kernel_rfl)) (by unfold Func.isWrapper; rw [if_neg (of_decide_eq_false (by kernel_rfl))]; exact ⟨rfl, rfl⟩)
    (fun os started H enc _ => lifted os started H enc)
theorem proved : Rows.StoreOpensCardSaid :=
  Claim7.holds_tied_plain_at .later [] [.sentinel, .sentinel, .sentinel] true (true, "9f2557617b240cd7f912789b61f39f1bea7a07adc8beca00850847cd3bbcb982") true
    rowProved (fun _ h => by cases h) (by kernel_rfl) (fun _ h => by cases h) storeOpens_row_tie rfl ⟨rfl, rfl⟩ (by kernel_rfl) rfl
    (fun f fn hf hfn => by
      obtain rfl : f = 4 := Option.some.inj ((show Tryd.prog.funcNamed "jalousie/jalousielaw09.StoreOpens" = some 4 by kernel_rfl).symm.trans hf) |>.symm
      obtain rfl : fn = Tryd.f4 := (Option.some.inj (Tryd.func4.symm.trans hfn)).symm
      exact ⟨by kernel_rfl, fun j t ht => by
        rw [Tryd.params4] at ht
        have hm : t ∈ [30, 30, 37] := by simpa using Array.mem_of_getElem? ht
        have hall : ([30, 30, 37].all fun u => !Tryd.prog.wantsStandIn u) = true := by kernel_rfl
        exact (show Tryd.prog.wantsStandIn t = false by simpa using List.all_eq_true.1 hall t hm)⟩)
    (by kernel_rfl)
end Go.Proofs.YtomdimlnggpgbaaDoor.opensP
