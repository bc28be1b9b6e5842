/- GroupOps: whatever steps are given, the law returns true, and they read as they did. No condition. -/
import Derived.Test.YtngboefkhfldgaaGrpO
import Derived.Test.YtngboefkhfldgaaOpen
import Derived.ProofKit
set_option linter.unusedSimpArgs false
set_option linter.unusedVariables false
set_option linter.constructorNameAsVariable false
namespace Go.Proofs.Ytngboefkhfldgaa.opsP
open Go Go.Ex Go.ChangeShapes Go.WideShapes Go.ChangeAt Go.RowKit Go.Flow

set_option maxRecDepth 100000 in
theorem noneE (a : Option Addr) (cap : Nat) : funE Try.prog O.opΓ 20 60 5 [.sv (.one (.val (.slice a 0 cap))), .sv (.one (.int .u64 (.var 0)))] 1 = some (TB .tt, .tt, .id) := by kernel_rfl

theorem kinds : kindsT Try.prog 5 30 = some [.int .i64, .int .i64, .int .i64, .int .u64] := by kernel_rfl

theorem okWide_u64 {W : World} {r : Reach} {b0 : Nat} {v : Value} (h : Value.okWide Try.prog W r b0 25 v) : ∃ x, v = .int .u64 x :=
  okWide_int Try.underlying25 h
/-- Of any steps. -/
theorem any {H : Type} {enc : TypeId × Value → H} {W : World} {base b0 : Nat} {spare : Nat → Bool} {held : Bool} {r : Reach} {v : Value} {d : DataW H} {p : List MemPlace} (sq : Int)
    (hv : Value.okWide Try.prog W r b0 22 v) (h : DataW.Trod enc Try.prog W base spare held 22 v d p) :
    Calls Try.prog 5 #[v, .int .u64 sq] W fun e w' => e = .returned (.bool true) ∧ Below W.heap.size W w' := by
  obtain ⟨a0, len0, cap0, rfl⟩ := okWide_slice Try.underlying22 hv
  obtain ⟨fuel, hf⟩ := h
  have hnone : ∀ (a : Option Addr) (cap : Nat), Calls Try.prog 5 #[.slice a 0 cap, .int .u64 sq] W fun e w' => e = .returned (.bool true) ∧ Below W.heap.size W w' := fun a cap =>
    funE_sound O.opΓ_ok (noneE a cap) id ⟨fun _ => sq, fun _ => false, W⟩ W (fun _ _ h => h) trivial
  rcases open_rows Try.underlying22 kinds (by kernel_rfl) hf with h | ⟨a, len, cap, hcs, hl, hc, hat⟩
  · simp only [Value.cells, List.cons.injEq, Value.slice.injEq, and_true] at h
    obtain ⟨rfl, rfl, rfl⟩ := h
    exact hnone none 0
  · simp only [Value.cells, List.cons.injEq, Value.slice.injEq, and_true] at hcs
    obtain ⟨rfl, rfl, rfl⟩ := hcs
    rcases Nat.eq_zero_or_pos len0 with h0 | h0
    · subst h0; exact hnone _ _
    · obtain ⟨v0, hv0, _⟩ := hat 0 h0 0 _ rfl
      have hsp : a.spot = none := by
        simp only [Nat.zero_mul, Nat.add_zero, Addr.add, if_true] at hv0
        unfold World.cell? at hv0
        split at hv0
        · split at hv0
          · cases hv0
          · rename_i h; simpa using h
        · cases hv0
      obtain ⟨blk, off, spot⟩ := a
      simp only at hsp
      subst hsp
      have key := O.ops_some ⟨fun k => match k with | 0 => blk | 1 => off | 2 => len0 | 3 => cap0 | 4 => sq | _ => 0, fun _ => false, W⟩ W rfl (by show (0 : Int) ≤ off; omega) (by show (0 : Int) ≤ len0; omega) (by
        intro i hi0 hi1 j hj
        obtain ⟨q, rfl⟩ := Int.eq_ofNat_of_zero_le hi0
        have hq : q < len0 := by have : (q : Int) < len0 := hi1; omega
        have e : romCell W blk ((off : Int) + (q : Int) * 4) j = W.cell? ((⟨blk, off, none⟩ : Addr).add (q * 4 + j)) := by
          unfold romCell
          rw [addr_add]
          congr 2
          omega
        show valIs (romCell W blk ((off : Int) + (q : Int) * 4) j) (stepKd j) = true
        rw [e]
        match j, hj with
        | 0, _ => obtain ⟨v, hv, ho⟩ := hat q hq 0 _ rfl; rw [show (([.int .i64, .int .i64, .int .i64, .int .u64] : List Kd).length) = 4 from rfl] at hv; rw [hv]; exact okC_valIs ho
        | 1, _ => obtain ⟨v, hv, ho⟩ := hat q hq 1 _ rfl; rw [show (([.int .i64, .int .i64, .int .i64, .int .u64] : List Kd).length) = 4 from rfl] at hv; rw [hv]; exact okC_valIs ho
        | 2, _ => obtain ⟨v, hv, ho⟩ := hat q hq 2 _ rfl; rw [show (([.int .i64, .int .i64, .int .i64, .int .u64] : List Kd).length) = 4 from rfl] at hv; rw [hv]; exact okC_valIs ho
        | 3, _ => obtain ⟨v, hv, ho⟩ := hat q hq 3 _ rfl; rw [show (([.int .i64, .int .i64, .int .i64, .int .u64] : List Kd).length) = 4 from rfl] at hv; rw [hv]; exact okC_valIs ho)
      exact key

theorem own : ownKnob Try.prog.godebug = none := by kernel_rfl
theorem laidOut : laidOutB Try.prog = true := by kernel_rfl

set_option maxRecDepth 100000 in
theorem lifted (os : Os) (started : os.Started) (H : Type) (enc : TypeId × Value → H) :
    ReturnsInHanded {} Try.checked os 5 .any (Rows.groupOpsSpec.pre6 enc Try.prog Try.f5 Rows.groupOpsRow.domain false) (Rows.groupOpsSpec.post enc Try.prog Try.f5 false true false false) := by
  refine returnsInHanded_of_change (C := Try.checked) own started (by kernel_rfl) Try.func5
    (ChangeSpec.witness6 (enc := enc) (C := Try.checked) false ⟨#[], #[.slice none 0 0, .int .u64 0], []⟩ 8 (by kernel_rfl) (by kernel_rfl) (by kernel_rfl) (by kernel_rfl)) ?_
  intro W base args ds gs before hval0 hW hcnd _
  have hval : ∀ (j : Nat) t v, Try.f5.params[j]? = some t → args[j]? = some v → Value.okWide Try.prog W .any base t v := hval0
  have hW' := hW
  obtain ⟨p, q, hA0, hV, rfl, hfz, hnd⟩ := hW
  have hA : DataW.TrodAll enc Try.prog W 0 (fun _ => true) true Try.f5.params.toList args.toList ds p := hA0
  rw [Try.params5] at hA hval
  obtain ⟨v0, vs0, d0, ds0, p0, q0, hargs, rfl, rfl, h0, r0⟩ := trodAll_cons hA
  obtain ⟨v1, vs1, d1, ds1, p1, q1, rfl, rfl, rfl, h1, r1⟩ := trodAll_cons r0
  obtain ⟨rfl, rfl, rfl⟩ := trodAll_nil r1
  obtain rfl : args = #[v0, v1] := by cases args; simp_all
  obtain ⟨rfl, rfl⟩ := trodVars_none hV
  have lt : ∀ {t v d} {ps : List MemPlace}, DataW.Trod enc Try.prog W 0 (fun _ => true) true t v d ps → ∀ x ∈ ps, x.block < W.heap.size := fun hk => by obtain ⟨m, hm⟩ := hk; exact DataW.trod_lt m _ _ _ hm
  have k0 := h0
  have k1 := h1
  clear hA0 hval0
  obtain ⟨sq, rfl⟩ := okWide_u64 (hval 1 25 v1 rfl rfl)
  have hcall := any sq (hval 0 22 v0 rfl rfl) h0
  refine hcall.mono fun e W' ⟨he, bel⟩ => ?_
  subst he
  exact ⟨_, rfl, _, _, _, [], _, [], hW', trodAll_mk1 (shut_bool Try.underlying4 _), (trodAll_cons_mk (Below.trod laidOut (by kernel_rfl) (of_decide_eq_true (by kernel_rfl)) k0 bel (lt k0)) (trodAll_cons_mk (Below.trod laidOut (by kernel_rfl) (of_decide_eq_true (by kernel_rfl)) k1 bel (lt k1)) trodAll_mk0)), rfl, bel.frame _, fun h => by cases h⟩

theorem proved : Rows.GroupOpsSaid :=
  OpenClaim.holds_of_wide 5 Try.f5 rfl rfl rfl rfl rfl rfl rfl ⟨rfl, rfl, rfl, rfl, rfl⟩ rfl rfl rfl rfl rfl (by kernel_rfl) Try.func5 (by kernel_rfl)
    (of_decide_eq_true (by kernel_rfl)) (by unfold Func.isWrapper; rw [if_neg (of_decide_eq_false (by kernel_rfl))]; exact ⟨rfl, rfl⟩)
    (fun os started H enc _ => lifted os started H enc)
end Go.Proofs.Ytngboefkhfldgaa.opsP
