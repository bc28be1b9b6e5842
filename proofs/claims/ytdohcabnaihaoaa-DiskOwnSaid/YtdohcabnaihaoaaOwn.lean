/- DiskOwn: whatever bytes are given, the law returns true, and they read as they did. No condition. -/
import Derived.Test.YtdohcabnaihaoaaDskF
import Derived.Test.YtdohcabnaihaoaaOpS
import Derived.ProofKit
import Derived.OpenShut
import Derived.Deep.Slices
import Derived.ChangeSame
set_option linter.unusedSimpArgs false
set_option linter.unusedVariables false
set_option linter.constructorNameAsVariable false
namespace Go.Proofs.Ytdohcabnaihaoaa.ownP
open Go Go.Sx Go.ChangeShapes Go.WideShapes Go.ChangeAt Go.RowKit Go.Deep

/-- Of any bytes. -/
theorem any {H : Type} {enc : TypeId × Value → H} {W : World} {base b0 : Nat} {spare : Nat → Bool} {held : Bool} {r : Reach} {v : Value} {d : DataW H} {p : List MemPlace}
    (hv : Value.okWide Try.prog W r b0 22 v) (h : DataW.Trod enc Try.prog W base spare held 22 v d p) :
    Calls Try.prog 3 #[v] W fun e w' => e = .returned (.bool true) ∧ Below W.heap.size W w' := by
  obtain ⟨bs, hrd⟩ : ∃ bs, RdW (Hl.all W) v bs := by
    obtain ⟨a0, len0, cap0, rfl⟩ := okWide_slice Try.underlying22 hv
    obtain ⟨fuel, hf⟩ := h
    rcases open_rows Try.underlying22 (ks := [.int .u8]) (dp := 1) (by kernel_rfl) (by kernel_rfl) hf with h | ⟨a, len, cap, hcs, hl, hc, hat⟩
    · simp only [Value.cells, List.cons.injEq, Value.slice.injEq, and_true] at h
      obtain ⟨rfl, rfl, rfl⟩ := h
      exact ⟨[], -1, 0, 0, rfl, by omega, Or.inl rfl⟩
    · simp only [Value.cells, List.cons.injEq, Value.slice.injEq, and_true] at hcs
      obtain ⟨rfl, rfl, rfl⟩ := hcs
      rcases Nat.eq_zero_or_pos len0 with h0 | h0
      · subst h0
        obtain ⟨x, y, hx, hy, _⟩ := slP_all (some a)
        exact ⟨[], x, y, cap0, by rw [hx]; rfl, hy, Or.inl rfl⟩
      · have hcell : ∀ i, i < len0 → ∃ n, W.cell? (a.add i) = some (.int .u8 n) := by
          intro i hi
          obtain ⟨v, hv, ho⟩ := hat i hi 0 _ rfl
          obtain ⟨n, rfl, _⟩ := ho
          refine ⟨n, ?_⟩
          rw [show i = i * ([Kd.int .u8] : List Kd).length + 0 by simp]; exact hv
        have hsp : a.spot = none := by
          obtain ⟨n, hn⟩ := hcell 0 h0
          simp only [Addr.add, if_true, Nat.add_zero] at hn
          unfold World.cell? at hn
          split at hn
          · split at hn
            · cases hn
            · rename_i h; simpa using h
          · cases hn
        obtain ⟨blk, off, spot⟩ := a
        simp only at hsp
        subst hsp
        refine ⟨(List.range len0).map fun i => valI (W.cell? ⟨blk, off + i, none⟩), blk, off, cap0, ?_, by omega, Or.inr ⟨by omega, fun j z hz => ?_⟩⟩
        · rw [slP_pos (by omega), List.length_map, List.length_range]; rfl
        · have hj : j < len0 := by have := (List.getElem?_eq_some_iff.1 hz).1; simpa using this
          rw [List.getElem?_map, List.getElem?_range hj] at hz
          simp only [Option.map_some, Option.some.injEq] at hz
          obtain ⟨n, hn⟩ := hcell j hj
          rw [addr_add] at hn
          rw [hn] at hz
          have hz : n = z := hz
          subst hz
          simp only [Int.toNat_natCast]
          unfold Hl.cell Hl.all
          unfold World.cell? at hn
          split at hn
          · rename_i c T fr hb
            rw [hb]
            simpa using hn
          · cases hn
  have := ownS_ok W [v] [] [Hl.all W] rfl rfl (fun _ h => nomatch h) (fun R hR => by rw [List.mem_singleton] at hR; subst hR; exact Hl.all_sub W) (fun p _ H _ _ h => by simp at h) (fun _ h => nomatch h) ⟨v, bs, _, rfl, rfl, hrd⟩
  refine this.mono ?_
  rintro e w' ⟨ρ, Hs', F, rfl, _, ht, hp⟩
  exact ⟨by rw [show (cpTV 0 ownS.res).ev ρ = .bool true from hp], ⟨ht.os, ht.tape, ht.output, ht.size, fun b hb => ht.block b hb (fun _ h => nomatch h)⟩⟩

theorem own : ownKnob Try.prog.godebug = none := by kernel_rfl
theorem laidOut : laidOutB Try.prog = true := by kernel_rfl

set_option maxRecDepth 100000 in
theorem lifted (os : Os) (started : os.Started) (H : Type) (enc : TypeId × Value → H) :
    ReturnsInHanded {} Try.checked os 3 .any (Rows.diskOwnSpec.pre6 enc Try.prog Try.f3 Rows.diskOwnRow.domain false) (Rows.diskOwnSpec.post enc Try.prog Try.f3 false true false false) := by
  refine returnsInHanded_of_change (C := Try.checked) own started (by kernel_rfl) Try.func3
    (ChangeSpec.witness6 (enc := enc) (C := Try.checked) false ⟨#[], #[.slice none 0 0], []⟩ 8 (by kernel_rfl) (by kernel_rfl) (by kernel_rfl) (by kernel_rfl)) ?_
  intro W base args ds gs before hval0 hW hcnd _
  have hval : ∀ (j : Nat) t v, Try.f3.params[j]? = some t → args[j]? = some v → Value.okWide Try.prog W .any base t v := hval0
  have hW' := hW
  obtain ⟨p, q, hA0, hV, rfl, hfz, hnd⟩ := hW
  have hA : DataW.TrodAll enc Try.prog W 0 (fun _ => true) true Try.f3.params.toList args.toList ds p := hA0
  rw [Try.params3] at hA hval
  obtain ⟨v0, vs0, d0, ds0, p0, q0, hargs, rfl, rfl, h0, r0⟩ := trodAll_cons hA
  obtain ⟨rfl, rfl, rfl⟩ := trodAll_nil r0
  obtain rfl : args = #[v0] := by cases args; simp_all
  obtain ⟨rfl, rfl⟩ := trodVars_none hV
  have lt : ∀ {t v d} {ps : List MemPlace}, DataW.Trod enc Try.prog W 0 (fun _ => true) true t v d ps → ∀ x ∈ ps, x.block < W.heap.size := fun hk => by obtain ⟨m, hm⟩ := hk; exact DataW.trod_lt m _ _ _ hm
  have k0 := h0
  clear hA0 hval0
  have hcall := any (hval 0 22 v0 rfl rfl) h0
  refine hcall.mono fun e W' ⟨he, bel⟩ => ?_
  subst he
  exact ⟨_, rfl, _, _, _, [], _, [], hW', trodAll_mk1 (shut_bool Try.underlying4 _), (trodAll_cons_mk (Below.trod laidOut (by kernel_rfl) (of_decide_eq_true (by kernel_rfl)) k0 bel (lt k0)) trodAll_mk0), rfl, bel.frame _, fun h => by cases h⟩

theorem proved : Rows.DiskOwnSaid :=
  OpenClaim.holds_of_wide 3 Try.f3 rfl rfl rfl rfl rfl rfl rfl ⟨rfl, rfl, rfl, rfl, rfl⟩ rfl rfl rfl rfl rfl (by kernel_rfl) Try.func3 (by kernel_rfl)
    (of_decide_eq_true (by kernel_rfl)) (by unfold Func.isWrapper; rw [if_neg (of_decide_eq_false (by kernel_rfl))]; exact ⟨rfl, rfl⟩)
    (fun os started H enc _ => lifted os started H enc)
end Go.Proofs.Ytdohcabnaihaoaa.ownP
