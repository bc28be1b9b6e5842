/- VectorReady: whatever vector and header are given, the law returns true, and they read as they did. No condition. -/
import Derived.Test.YtnlejejjeilpoaaRdy3
import Derived.Test.YtnlejejjeilpoaaOpen2
import Derived.Test.YtnlejejjeilpoaaRead
import Derived.ProofKit
set_option linter.unusedSimpArgs false
set_option linter.unusedVariables false
set_option linter.constructorNameAsVariable false
namespace Go.Proofs.Ytnlejejjeilpoaa.readyP
open Go Go.Ex Go.ChangeShapes Go.WideShapes Go.ChangeAt Go.RowKit Go.Flow

def kv : List Kt := List.replicate 6 (.int .u64)
def kh : List Kt := [.int .i64, .int .u64] ++ List.replicate 32 (.int .u8) ++ [.int .i64, .bool, .int .u64] ++ List.replicate 16 (.int .u8) ++ [.other 35] ++ List.replicate 6 (.int .u64) ++ List.replicate 32 (.int .u8) ++ [.int .i64] ++ List.replicate 32 (.int .u8)
theorem kv_eq : kindsT2 Try.prog 6 24 = some kv := by kernel_rfl
theorem kh_eq : kindsT2 Try.prog 6 37 = some kh := by kernel_rfl
theorem ktok : kindsT Try.prog 6 34 = some tk := by kernel_rfl
theorem kv_ck : kv.map Kt.ck = v6k := rfl
theorem kh_ck : kh.map Kt.ck = hk := by kernel_rfl
theorem u64_wf {n : Int} (h : (Lit.int .u64 n).wf = true) : 0 ≤ n ∧ n < 18446744073709551616 := by
  simp only [Lit.wf, IntKind.min, IntKind.max, IntKind.signed, IntKind.bits, Bool.and_eq_true, decide_eq_true_eq] at h
  simp at h
  omega
theorem u8_wf {n : Int} (h : (Lit.int .u8 n).wf = true) : 0 ≤ n ∧ n < 256 := by
  simp only [Lit.wf, IntKind.min, IntKind.max, IntKind.signed, IntKind.bits, Bool.and_eq_true, decide_eq_true_eq] at h
  simp at h
  omega
theorem i64_wf {n : Int} (h : (Lit.int .i64 n).wf = true) : -9223372036854775808 ≤ n ∧ n < 9223372036854775808 := by
  simp only [Lit.wf, IntKind.min, IntKind.max, IntKind.signed, IntKind.bits, Bool.and_eq_true, decide_eq_true_eq] at h
  simp at h
  omega
theorem ckVals_congr {p q : Pt} (h : ∀ j, j < 6 → p.i j = q.i j ∧ p.b j = q.b j) : ckVals p 0 v6k = ckVals q 0 v6k := by
  have e : ∀ r : Pt, ckVals r 0 v6k = [.int .u64 (r.i 0), .int .u64 (r.i 1), .int .u64 (r.i 2), .int .u64 (r.i 3), .int .u64 (r.i 4), .int .u64 (r.i 5)] := fun _ => rfl
  rw [e, e, (h 0 (by decide)).1, (h 1 (by decide)).1, (h 2 (by decide)).1, (h 3 (by decide)).1, (h 4 (by decide)).1, (h 5 (by decide)).1]

theorem slots_at {p : Pt} (h : Slots p 6 hk) : 0 ≤ p.i 60 ∧ 0 ≤ p.i 61 ∧ 0 ≤ p.i 62 := h.1
section
variable {H : Type} {enc : TypeId × Value → H} {W : World} {base b0 : Nat} {spare : Nat → Bool} {held : Bool} {r : Reach}
/-- An integer cell's bounds. -/
theorem int_at {Φ : Value → TypeId → Prop} {cs : List Value} {ks : List Kt} (h : okKs Φ cs ks) {j : Nat} {k k' : IntKind} {n : Int} (hk : ks[j]? = some (.int k)) (hc : cs[j]? = some (.int k' n)) : (Lit.int k n).wf = true := by
  obtain ⟨v, hv, x, rfl, hw⟩ := okKs_get h j _ hk
  rw [hc] at hv
  cases hv
  exact hw
theorem tok_of {p : Pt} (h20 : p.i 61 ≤ 20) (hs : 0 ≤ p.i 60 ∧ 0 ≤ p.i 61 ∧ 0 ≤ p.i 62) (ho : trodΦ enc Try.prog W base spare held (.slice (slP (p.i 59) (p.i 60)) (p.i 61).toNat (p.i 62).toNat) 35) : TokN (tp (qp p W) W) W := by
  obtain ⟨_, m, x, hx⟩ := ho
  have e0 : (tp (qp p W) W).i 0 = p.i 59 := rfl
  have e1 : (tp (qp p W) W).i 1 = p.i 60 := rfl
  have e2 : (tp (qp p W) W).i 2 = p.i 61 := rfl
  rcases open_rows Try.underlying35 ktok (by kernel_rfl) hx with h | ⟨a, len, cap, hcs, hl, hc, hat⟩
  · simp only [List.cons.injEq, Value.slice.injEq, and_true] at h
    have h0 : p.i 61 = 0 := by omega
    exact ⟨by rw [e1]; exact hs.1, by rw [e2]; omega, fun h => by rw [e2] at h; omega, fun i h0 h1 => by rw [e2] at h1; omega⟩
  · simp only [List.cons.injEq, Value.slice.injEq, and_true] at hcs
    obtain ⟨ha, hlen, hcap⟩ := hcs
    have blk : 0 < p.i 61 → 0 ≤ p.i 59 := fun hp => by
      obtain ⟨v0, hv0, _⟩ := hat 0 (by omega) 0 (.int .u8) rfl
      have hsp : a.spot = none := by
        have := World.cell?_spot hv0
        simpa [Addr.add] using this
      rcases Int.lt_or_le (p.i 59) 0 with h | h
      · exfalso
        unfold slP at ha
        rw [if_neg (by omega)] at ha
        split at ha
        · cases ha
        · simp only [Option.some.injEq] at ha
          rw [← ha] at hsp
          cases hsp
      · exact h
    refine ⟨by rw [e1]; exact hs.1, by rw [e2]; omega, fun h => by rw [e2] at h; rw [e0]; exact blk h, fun i h0 h1 j hj => ?_⟩
    rw [e2] at h1
    rw [e0, e1]
    have hb := blk (by omega)
    rw [slP_pos hb] at ha
    simp only [Option.some.injEq] at ha
    obtain ⟨q, rfl⟩ := Int.eq_ofNat_of_zero_le h0
    have hk : tk[j]? = some (.int .u8) := by
      have : tk = List.replicate 16 (.int .u8) := rfl
      rw [this, List.getElem?_replicate, if_pos hj]
    obtain ⟨v, hv, n, rfl, hw⟩ := hat q (by omega) j (.int .u8) hk
    have e : romCell W (p.i 59) (p.i 60 + (q : Int) * 16) j = some (.int .u8 n) := by
      rw [← hv, ← ha, addr_add]
      unfold romCell
      have l16 : tk.length = 16 := rfl
      rw [l16]
      congr 2
      omega
    rw [e]
    exact ⟨by simp [valIs], u8_wf hw⟩

theorem any {v0 v1 : Value} {d0 d1 : DataW H} {q0 q1 : List MemPlace} (hv0 : Value.okWide Try.prog W r b0 24 v0) (h0 : DataW.Trod enc Try.prog W base spare held 24 v0 d0 q0)
    (hv1 : Value.okWide Try.prog W r b0 37 v1) (h1 : DataW.Trod enc Try.prog W base spare held 37 v1 d1 q1) :
    Calls Try.prog 5 #[v0, v1] W fun e w' => e = .returned (.bool true) ∧ Below W.heap.size W w' := by
  obtain ⟨⟨c0⟩, rfl, _⟩ := okWide_array Try.underlying24 hv0
  obtain ⟨⟨c1⟩, rfl, _⟩ := okWide_struct Try.underlying37 hv1
  obtain ⟨f0, g0⟩ := h0
  obtain ⟨f1, g1⟩ := h1
  have o0 : okKs (trodΦ enc Try.prog W base spare held) c0 kv := trod_kinds2 6 _ kv f0 _ _ kv_eq g0
  have o1 : okKs (trodΦ enc Try.prog W base spare held) c1 kh := trod_kinds2 6 _ kh f1 _ _ kh_eq g1
  obtain ⟨p0, _, e0, _⟩ := pt_of trodΦ_sl kv c0 0 o0 ⟨fun _ => 0, fun _ => false⟩
  obtain ⟨p, lo, e1, sl⟩ := pt_of trodΦ_sl kh c1 6 o1 p0
  rw [kv_ck, ← ckVals_congr lo] at e0
  rw [kh_ck] at e1 sl
  subst e0
  subst e1
  have hs := slots_at sl
  refine ready_any p W ⟨hs.2.1, fun h20 => ⟨tok_of (enc := enc) (base := base) (spare := spare) (held := held) h20 hs ?_, ?_⟩, ?_⟩
  · obtain ⟨v, hv, ho⟩ := okKs_get o1 53 (.other 35) rfl
    have : (ckVals p 6 hk)[53]? = some (.slice (slP (p.i 59) (p.i 60)) (p.i 61).toNat (p.i 62).toNat) := rfl
    rw [this] at hv
    cases hv
    exact ho
  · exact i64_wf (int_at o1 (j := 92) (k := .i64) (k' := .i64) (n := p.i 101) rfl rfl)
  · intro j hj
    match j, hj with
    | 0, _ => exact u64_wf (int_at o0 (j := 0) (k := .u64) (k' := .u64) (n := p.i 0) rfl rfl)
    | 1, _ => exact u64_wf (int_at o0 (j := 1) (k := .u64) (k' := .u64) (n := p.i 1) rfl rfl)
    | 2, _ => exact u64_wf (int_at o0 (j := 2) (k := .u64) (k' := .u64) (n := p.i 2) rfl rfl)
    | 3, _ => exact u64_wf (int_at o0 (j := 3) (k := .u64) (k' := .u64) (n := p.i 3) rfl rfl)
    | 4, _ => exact u64_wf (int_at o0 (j := 4) (k := .u64) (k' := .u64) (n := p.i 4) rfl rfl)
    | 5, _ => exact u64_wf (int_at o0 (j := 5) (k := .u64) (k' := .u64) (n := p.i 5) rfl rfl)
    | 6, _ => exact u64_wf (int_at o1 (j := 54) (k := .u64) (k' := .u64) (n := p.i 63) rfl rfl)
    | 7, _ => exact u64_wf (int_at o1 (j := 55) (k := .u64) (k' := .u64) (n := p.i 64) rfl rfl)
    | 8, _ => exact u64_wf (int_at o1 (j := 56) (k := .u64) (k' := .u64) (n := p.i 65) rfl rfl)
    | 9, _ => exact u64_wf (int_at o1 (j := 57) (k := .u64) (k' := .u64) (n := p.i 66) rfl rfl)
    | 10, _ => exact u64_wf (int_at o1 (j := 58) (k := .u64) (k' := .u64) (n := p.i 67) rfl rfl)
    | 11, _ => exact u64_wf (int_at o1 (j := 59) (k := .u64) (k' := .u64) (n := p.i 68) rfl rfl)
    | q + 12, hj => exact absurd hj (by omega)
end

theorem own : ownKnob Try.prog.godebug = none := by kernel_rfl
theorem laidOut : laidOutB Try.prog = true := by kernel_rfl

set_option maxRecDepth 100000 in
theorem lifted (os : Os) (started : os.Started) (H : Type) (enc : TypeId × Value → H) :
    ReturnsInHanded {} Try.checked os 5 .any (Rows.vectorReadySpec.pre6 enc Try.prog Try.f5 Rows.vectorReadyRow.domain false) (Rows.vectorReadySpec.post enc Try.prog Try.f5 false true false false) := by
  refine returnsInHanded_of_change (C := Try.checked) own started (by kernel_rfl) Try.func5
    (ChangeSpec.witness6 (enc := enc) (C := Try.checked) false ⟨#[], #[.agg #[.int .u64 0, .int .u64 0, .int .u64 0, .int .u64 0, .int .u64 0, .int .u64 0], .agg #[.int .i64 0, .int .u64 0, .int .u8 0, .int .u8 0, .int .u8 0, .int .u8 0, .int .u8 0, .int .u8 0, .int .u8 0, .int .u8 0, .int .u8 0, .int .u8 0, .int .u8 0, .int .u8 0, .int .u8 0, .int .u8 0, .int .u8 0, .int .u8 0, .int .u8 0, .int .u8 0, .int .u8 0, .int .u8 0, .int .u8 0, .int .u8 0, .int .u8 0, .int .u8 0, .int .u8 0, .int .u8 0, .int .u8 0, .int .u8 0, .int .u8 0, .int .u8 0, .int .u8 0, .int .u8 0, .int .i64 0, .bool false, .int .u64 0, .int .u8 0, .int .u8 0, .int .u8 0, .int .u8 0, .int .u8 0, .int .u8 0, .int .u8 0, .int .u8 0, .int .u8 0, .int .u8 0, .int .u8 0, .int .u8 0, .int .u8 0, .int .u8 0, .int .u8 0, .int .u8 0, .slice none 0 0, .int .u64 0, .int .u64 0, .int .u64 0, .int .u64 0, .int .u64 0, .int .u64 0, .int .u8 0, .int .u8 0, .int .u8 0, .int .u8 0, .int .u8 0, .int .u8 0, .int .u8 0, .int .u8 0, .int .u8 0, .int .u8 0, .int .u8 0, .int .u8 0, .int .u8 0, .int .u8 0, .int .u8 0, .int .u8 0, .int .u8 0, .int .u8 0, .int .u8 0, .int .u8 0, .int .u8 0, .int .u8 0, .int .u8 0, .int .u8 0, .int .u8 0, .int .u8 0, .int .u8 0, .int .u8 0, .int .u8 0, .int .u8 0, .int .u8 0, .int .u8 0, .int .i64 0, .int .u8 0, .int .u8 0, .int .u8 0, .int .u8 0, .int .u8 0, .int .u8 0, .int .u8 0, .int .u8 0, .int .u8 0, .int .u8 0, .int .u8 0, .int .u8 0, .int .u8 0, .int .u8 0, .int .u8 0, .int .u8 0, .int .u8 0, .int .u8 0, .int .u8 0, .int .u8 0, .int .u8 0, .int .u8 0, .int .u8 0, .int .u8 0, .int .u8 0, .int .u8 0, .int .u8 0, .int .u8 0, .int .u8 0, .int .u8 0, .int .u8 0, .int .u8 0]], []⟩ 8 (by kernel_rfl) (by kernel_rfl) (by kernel_rfl) (by kernel_rfl)) ?_
  intro W base args ds gs before hval0 hW hcnd _
  have hval : ∀ (j : Nat) t v, Try.f5.params[j]? = some t → args[j]? = some v → Value.okWide Try.prog W .any base t v := hval0
  have hW' := hW
  obtain ⟨p, q, hA0, hV, rfl, hfz, hnd⟩ := hW
  have hA : DataW.TrodAll enc Try.prog W 0 (fun _ => true) true Try.f5.params.toList args.toList ds p := hA0
  rw [Try.params5] at hA hval
  obtain ⟨v0, vs0, d0, ds0, p0, q0, hargs, rfl, rfl, h0, r0⟩ := trodAll_cons hA
  obtain ⟨v1, vs1, d1, ds1, p1, q1, rfl, rfl, rfl, h1, r1⟩ := trodAll_cons r0
  obtain ⟨rfl, rfl, rfl⟩ := trodAll_nil r1
  obtain rfl : args = #[v0, v1] := by cases args; simp_all
  obtain ⟨rfl, rfl⟩ := trodVars_none hV
  have lt : ∀ {t v d} {ps : List MemPlace}, DataW.Trod enc Try.prog W 0 (fun _ => true) true t v d ps → ∀ x ∈ ps, x.block < W.heap.size := fun hk => by obtain ⟨m, hm⟩ := hk; exact DataW.trod_lt m _ _ _ hm
  have k0 := h0
  have k1 := h1
  clear hA0 hval0
  have hcall := any (hval 0 24 v0 rfl rfl) h0 (hval 1 37 v1 rfl rfl) h1
  refine hcall.mono fun e W' ⟨he, bel⟩ => ?_
  subst he
  exact ⟨_, rfl, _, _, _, [], _, [], hW', trodAll_mk1 (shut_bool Try.underlying4 _), (trodAll_cons_mk (Below.trod laidOut (by kernel_rfl) (of_decide_eq_true (by kernel_rfl)) k0 bel (lt k0)) (trodAll_cons_mk (Below.trod laidOut (by kernel_rfl) (of_decide_eq_true (by kernel_rfl)) k1 bel (lt k1)) trodAll_mk0)), rfl, bel.frame _, fun h => by cases h⟩

theorem proved : Rows.VectorReadySaid :=
  OpenClaim.holds_of_wide 5 Try.f5 rfl rfl rfl rfl rfl rfl rfl ⟨rfl, rfl, rfl, rfl, rfl⟩ rfl rfl rfl rfl rfl (by kernel_rfl) Try.func5 (by kernel_rfl)
    (of_decide_eq_true (by kernel_rfl)) (by unfold Func.isWrapper; rw [if_neg (of_decide_eq_false (by kernel_rfl))]; exact ⟨rfl, rfl⟩)
    (fun os started H enc _ => lifted os started H enc)
end Go.Proofs.Ytnlejejjeilpoaa.readyP
