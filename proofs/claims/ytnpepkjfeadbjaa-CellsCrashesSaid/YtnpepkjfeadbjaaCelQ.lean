/- Layer 8: the reference's number and Head, as contracts. Condition: bytes below 256. -/
import Derived.Test.YtnpepkjfeadbjaaCelN
set_option linter.unusedSimpArgs false
set_option linter.unusedVariables false
set_option linter.constructorNameAsVariable false
namespace Go.Proofs.Ytnpepkjfeadbjaa
open Go Go.Sx

def byteL (bs : List Int) : Prop := ∀ b ∈ bs, 0 ≤ b ∧ b < 256
def numberS : Sx.Spec where
  fn := 43
  own := []
  rd := [0]
  res := [.one (.int .u64)]
  pre := fun xs Hs Rs => ∃ u bs R, xs = [u] ∧ Rs = [R] ∧ RdW R u bs ∧ bs.length = 8 ∧ byteL bs
  post := fun xs Hs Rs v Hs' F => ∃ u bs R, xs = [u] ∧ Rs = [R] ∧ RdW R u bs ∧ v = .int .u64 (bigI bs)
def numberNd : Nd := .and (.e (.le (.lit 0) (.var 0))) (.and (.e (.le (.lit 0) (.var 1))) (.and (.e (.lt (.lit 0) (.var 2))) (.and (.e (.his 4 (.var 0) (.var 1) 0 (.int .u8))) (.and (.e (.lt (.lit 1) (.var 2))) (.and (.e (.his 4 (.var 0) (.add (.var 1) (.lit 1)) 0 (.int .u8))) (.and (.e (.lt (.lit 2) (.var 2))) (.and (.e (.his 4 (.var 0) (.add (.var 1) (.lit 2)) 0 (.int .u8))) (.and (.e (.lt (.lit 3) (.var 2))) (.and (.e (.his 4 (.var 0) (.add (.var 1) (.lit 3)) 0 (.int .u8))) (.and (.e (.lt (.lit 4) (.var 2))) (.and (.e (.his 4 (.var 0) (.add (.var 1) (.lit 4)) 0 (.int .u8))) (.and (.e (.lt (.lit 5) (.var 2))) (.and (.e (.his 4 (.var 0) (.add (.var 1) (.lit 5)) 0 (.int .u8))) (.and (.e (.lt (.lit 6) (.var 2))) (.and (.e (.his 4 (.var 0) (.add (.var 1) (.lit 6)) 0 (.int .u8))) (.and (.e (.lt (.lit 7) (.var 2))) (.and (.e (.his 4 (.var 0) (.add (.var 1) (.lit 7)) 0 (.int .u8))) (.post [.ro 4 [.var 0] false] (.sv (.one (.int .u64 (.wrap .u64 (.add (.wrap .u64 (.mul (.wrap .u64 (.add (.wrap .u64 (.mul (.wrap .u64 (.add (.wrap .u64 (.mul (.wrap .u64 (.add (.wrap .u64 (.mul (.wrap .u64 (.add (.wrap .u64 (.mul (.wrap .u64 (.add (.wrap .u64 (.mul (.wrap .u64 (.add (.wrap .u64 (.mul (.wrap .u64 (.wrap .u64 (.hI 4 (.var 0) (.var 1) 0))) (.lit 256))) (.wrap .u64 (.hI 4 (.var 0) (.add (.var 1) (.lit 1)) 0)))) (.lit 256))) (.wrap .u64 (.hI 4 (.var 0) (.add (.var 1) (.lit 2)) 0)))) (.lit 256))) (.wrap .u64 (.hI 4 (.var 0) (.add (.var 1) (.lit 3)) 0)))) (.lit 256))) (.wrap .u64 (.hI 4 (.var 0) (.add (.var 1) (.lit 4)) 0)))) (.lit 256))) (.wrap .u64 (.hI 4 (.var 0) (.add (.var 1) (.lit 5)) 0)))) (.lit 256))) (.wrap .u64 (.hI 4 (.var 0) (.add (.var 1) (.lit 6)) 0)))) (.lit 256))) (.wrap .u64 (.hI 4 (.var 0) (.add (.var 1) (.lit 7)) 0)))))))))))))))))))))))))
def numberW : Walk Try.prog [] numberS.fn where
  Λ := noLoops
  args := [.sv (.one (.sl (.var 0) (.var 1) (.var 2) (.var 3)))]
  mem := [.ro 4 [.var 0] false]
  nv := 5
  nd := numberNd
  ok := by kernel_rfl
theorem stepW {h c : Int} (h0 : 0 ≤ h) (h1 : h < 72057594037927936) (hc : 0 ≤ c ∧ c < 256) : IntKind.u64.wrap (IntKind.u64.wrap (h * 256) + IntKind.u64.wrap c) = h * 256 + c := by
  rw [wrap_u64 (x := h * 256) (by omega) (by omega), wrap_u64 hc.1 (by omega), wrap_u64 (by omega) (by omega)]
theorem list8 {l : List Int} (h : l.length = 8) : ∃ a b c d e f g i, l = [a, b, c, d, e, f, g, i] := by
  match l, h with
  | [a, b, c, d, e, f, g, i], _ => exact ⟨a, b, c, d, e, f, g, i, rfl⟩
theorem numberS_ok : numberS.OK Try.prog := by
  refine Spec.of_fn (Γ := []) (fun _ h => by cases h) ?_
  rintro xs Hs Rs hl1 hl2 ⟨u, bs, R, rfl, rfl, ⟨x, y, cp, rfl, hy, hR⟩, hlen, hby⟩
  have e0 : Hs = [] := List.length_eq_zero_iff.1 hl1
  subst e0
  have hR : 0 ≤ x ∧ ∀ j z, bs[j]? = some z → R.cell x.toNat (y.toNat + j) = some (.int .u8 z) := by
    rcases hR with h | h
    · rw [h] at hlen; cases hlen
    · exact h
  obtain ⟨hx, hc⟩ := hR
  refine ⟨numberW, envI [x, y, bs.length, cp] false [Hl.none, Hl.none, Hl.none, Hl.none, R], fun _ _ => True, fun _ _ => 0, ?_, ⟨?_, ?_, ?_, ?_⟩, (fun _ h => nomatch h), ?_⟩
  · show [Value.slice (slP x y) ((bs.length : Int)).toNat ((cp : Int)).toNat] = _
    rw [Int.toNat_natCast, Int.toNat_natCast]
  · intro r hr ho; simp [numberW] at hr; subst hr; cases ho
  · intro r hr ho; simp [numberW] at hr; subst hr; exact ⟨R, by simp, Hl.le_refl _⟩
  · simp [numberW]
  · intro r hr; simp [numberW] at hr; subst hr; trivial
  · show Nd.holds _ _ _ numberNd
    generalize hρ : envI [x, y, bs.length, cp] false [Hl.none, Hl.none, Hl.none, Hl.none, R] = ρ
    have v0 : ρ.i 0 = x := by rw [← hρ]; rfl
    have v1 : ρ.i 1 = y := by rw [← hρ]; rfl
    have v2 : ρ.i 2 = 8 := by rw [← hρ]; show (bs.length : Int) = 8; omega
    have w4 : ρ.h 4 = R := by rw [← hρ]; rfl
    obtain ⟨a, b, c, d, e, f, g, i, rfl⟩ := list8 hlen
    have k0 : R.cell x.toNat y.toNat = some (.int .u8 a) := hc 0 a rfl
    have k1 : R.cell x.toNat (y + 1).toNat = some (.int .u8 b) := by rw [show (y + 1).toNat = y.toNat + 1 by omega]; exact hc 1 b rfl
    have k2 : R.cell x.toNat (y + 2).toNat = some (.int .u8 c) := by rw [show (y + 2).toNat = y.toNat + 2 by omega]; exact hc 2 c rfl
    have k3 : R.cell x.toNat (y + 3).toNat = some (.int .u8 d) := by rw [show (y + 3).toNat = y.toNat + 3 by omega]; exact hc 3 d rfl
    have k4 : R.cell x.toNat (y + 4).toNat = some (.int .u8 e) := by rw [show (y + 4).toNat = y.toNat + 4 by omega]; exact hc 4 e rfl
    have k5 : R.cell x.toNat (y + 5).toNat = some (.int .u8 f) := by rw [show (y + 5).toNat = y.toNat + 5 by omega]; exact hc 5 f rfl
    have k6 : R.cell x.toNat (y + 6).toNat = some (.int .u8 g) := by rw [show (y + 6).toNat = y.toNat + 6 by omega]; exact hc 6 g rfl
    have k7 : R.cell x.toNat (y + 7).toNat = some (.int .u8 i) := by rw [show (y + 7).toNat = y.toNat + 7 by omega]; exact hc 7 i rfl
    unfold numberNd
    simp only [Nd.holds, X.pre, X.rel, X.n, Src.ok, Src.len, Src.vals, true_and, and_true, if_true, Nat.mul_one, Nat.add_zero, Nat.reduceAdd, List.length_cons, List.length_nil, bT_tt, bT_ff, bT_bvar, bT_not, bT_and, bT_or, bT_ite, bT_lt, bT_le, bT_eq, bT_beq, bT_seq, bT_hB, bT_his, bT_hby, bT_hism, bT_hks, iev_lit, iev_var, iev_add, iev_sub, iev_mul, iev_wrap, iev_ite, iev_hI, iev_hP, iev_hmlen, sev_ite, sev_slit, sev_sof, sev_svar, TV.ev, SV.ev, CV.ev, List.map_cons, List.map_nil, Res.hl]
    rw [v0, v1, v2, w4, k0, k1, k2, k3, k4, k5, k6, k7]
    obtain ⟨ha, hb, hc', hd, he, hf, hg, hi⟩ : (0 ≤ a ∧ a < 256) ∧ (0 ≤ b ∧ b < 256) ∧ (0 ≤ c ∧ c < 256) ∧ (0 ≤ d ∧ d < 256) ∧ (0 ≤ e ∧ e < 256) ∧ (0 ≤ f ∧ f < 256) ∧ (0 ≤ g ∧ g < 256) ∧ (0 ≤ i ∧ i < 256) := ⟨hby _ (by simp), hby _ (by simp), hby _ (by simp), hby _ (by simp), hby _ (by simp), hby _ (by simp), hby _ (by simp), hby _ (by simp)⟩
    refine ⟨hx, hy, by omega, rfl, by omega, rfl, by omega, rfl, by omega, rfl, by omega, rfl, by omega, rfl, by omega, rfl, by omega, rfl, fun _ => ⟨[], [], rfl, rfl, ⟨⟨fun _ => bigI [a, b, c, d, e, f, g, i], fun _ => false, fun _ => .empty, fun _ => .tuple #[], fun _ => Hl.none⟩, ?_, trivial, trivial⟩, _, [a, b, c, d, e, f, g, i], R, rfl, rfl, ⟨x, y, cp, rfl, hy, Or.inr ⟨hx, hc⟩⟩, ?_⟩⟩
    all_goals
      show _ = Value.int .u64 (bigI [a, b, c, d, e, f, g, i])
      simp only [TV.ev, SV.ev, CV.ev, cpTV, Cp.sv, Ck.cv, iev_lit, iev_var, iev_add, iev_sub, iev_mul, iev_wrap, iev_ite, iev_hI, iev_hP, iev_hmlen, sev_ite, sev_slit, sev_sof, sev_svar, Nat.add_zero]
      rw [v0, v1, w4, k0, k1, k2, k3, k4, k5, k6, k7, big_eight ha hb hc' hd he hf hg hi]
      simp only [valI]
      rw [wrap_u64 ha.1 (by omega), wrap_u64 ha.1 (by omega), stepW ha.1 (by omega) hb, stepW (by omega) (by omega) hc', stepW (by omega) (by omega) hd, stepW (by omega) (by omega) he, stepW (by omega) (by omega) hf, stepW (by omega) (by omega) hg, stepW (by omega) (by omega) hi]

/-! ### Head -/
/-- What a sector tells as the head of a place. -/
def refH (bs : List Int) (place most : Int) : List Int × Bool := if goodH bs most place then (headI (bs.take 32), true) else (zeros18, false)
def headT (r : List Int × Bool) : Value := .tuple #[.int .u64 (r.1.getD 0 0), .int .u64 (r.1.getD 1 0), .agg (bys (r.1.drop 2)).toArray, .bool r.2]
/-- Bytes that may be read, with room no less. -/
def RdC (R : Hl) (u : Value) (bs : List Int) : Prop := ∃ (x y : Int) (c : Nat), u = .slice (slP x y) bs.length c ∧ 0 ≤ y ∧ bs.length ≤ c ∧ 0 ≤ x ∧ ∀ j z, bs[j]? = some z → R.cell x.toNat (y.toNat + j) = some (.int .u8 z)
theorem RdC.w {R : Hl} {u : Value} {bs : List Int} (h : RdC R u bs) : RdW R u bs := by
  obtain ⟨x, y, c, hu, hy, _, hx, hc⟩ := h
  exact ⟨x, y, c, hu, hy, Or.inr ⟨hx, hc⟩⟩
def rheadS : Sx.Spec where
  fn := 35
  own := []
  rd := [0]
  res := [.one (.int .u64), .one (.int .u64), .agg (u8s 16), .one .bool]
  pre := fun xs Hs Rs => ∃ u place most bs R, xs = [u, .int .i64 place, .int .i64 most] ∧ Rs = [R] ∧ RdC R u bs ∧ bs.length = 64 ∧ byteL bs ∧ (place = 0 ∨ place = 1) ∧ 0 ≤ most ∧ most ≤ 1048576
  post := fun xs Hs Rs v Hs' F => ∃ u place most bs R, xs = [u, .int .i64 place, .int .i64 most] ∧ Rs = [R] ∧ RdC R u bs ∧ v = headT (refH bs place most)
def noteCs : List CV := (List.range 16).map fun (j : Nat) => .int .u8 (.hI 6 (.var 0) (.add (.var 1) (.lit ((16 + j : Nat) : Int))) 0)
def rheadNd : Nd := .ext (.alloc 7) (.ext (.alloc 8) (.and (.inv 0 [⟨20, 0, .int .i64 (.lit 0)⟩] []) (.havoc 0 0 9 (.and (.imp (.lt (.var 20) (.lit 32)) (.and (.e (.le (.lit 0) (.var 0))) (.and (.e (.le (.lit 0) (.var 1))) (.and (.e (.le (.lit 0) (.var 20))) (.and (.e (.lt (.var 20) (.var 2))) (.and (.e (.his 6 (.var 0) (.add (.var 1) (.var 20)) 0 (.int .u8))) (.and (.e (.le (.lit 0) (.wrap .i64 (.add (.lit 32) (.var 20))))) (.and (.e (.lt (.wrap .i64 (.add (.lit 32) (.var 20))) (.var 2))) (.and (.e (.his 6 (.var 0) (.add (.var 1) (.wrap .i64 (.add (.lit 32) (.var 20)))) 0 (.int .u8))) (.and (.imp (.not (.eq (.hI 6 (.var 0) (.add (.var 1) (.var 20)) 0) (.hI 6 (.var 0) (.add (.var 1) (.wrap .i64 (.add (.lit 32) (.var 20)))) 0))) (.post [.ro 6 [.var 0] false, .dead, .dead] (.tup [.one (.int .u64 (.lit 0)), .one (.int .u64 (.lit 0)), .agg (List.replicate 16 (CV.int .u8 (.lit 0))), .one (.bool .ff)]))) (.imp (.eq (.hI 6 (.var 0) (.add (.var 1) (.var 20)) 0) (.hI 6 (.var 0) (.add (.var 1) (.wrap .i64 (.add (.lit 32) (.var 20)))) 0)) (.back 0 0 [⟨20, 0, .int .i64 (.wrap .i64 (.add (.var 20) (.lit 1)))⟩] [])))))))))))) (.imp (.not (.lt (.var 20) (.lit 32))) (.and (.e (.le (.lit 0) (.var 0))) (.and (.e (.le (.lit 0) (.var 1))) (.and (.e (.lt (.lit 16) (.var 2))) (.and (.e (.his 6 (.var 0) (.add (.var 1) (.lit 16)) 0 (.int .u8))) (.and (.e (.lt (.lit 17) (.var 2))) (.and (.e (.his 6 (.var 0) (.add (.var 1) (.lit 17)) 0 (.int .u8))) (.and (.e (.lt (.lit 18) (.var 2))) (.and (.e (.his 6 (.var 0) (.add (.var 1) (.lit 18)) 0 (.int .u8))) (.and (.e (.lt (.lit 19) (.var 2))) (.and (.e (.his 6 (.var 0) (.add (.var 1) (.lit 19)) 0 (.int .u8))) (.and (.e (.lt (.lit 20) (.var 2))) (.and (.e (.his 6 (.var 0) (.add (.var 1) (.lit 20)) 0 (.int .u8))) (.and (.e (.lt (.lit 21) (.var 2))) (.and (.e (.his 6 (.var 0) (.add (.var 1) (.lit 21)) 0 (.int .u8))) (.and (.e (.lt (.lit 22) (.var 2))) (.and (.e (.his 6 (.var 0) (.add (.var 1) (.lit 22)) 0 (.int .u8))) (.and (.e (.lt (.lit 23) (.var 2))) (.and (.e (.his 6 (.var 0) (.add (.var 1) (.lit 23)) 0 (.int .u8))) (.and (.e (.lt (.lit 24) (.var 2))) (.and (.e (.his 6 (.var 0) (.add (.var 1) (.lit 24)) 0 (.int .u8))) (.and (.e (.lt (.lit 25) (.var 2))) (.and (.e (.his 6 (.var 0) (.add (.var 1) (.lit 25)) 0 (.int .u8))) (.and (.e (.lt (.lit 26) (.var 2))) (.and (.e (.his 6 (.var 0) (.add (.var 1) (.lit 26)) 0 (.int .u8))) (.and (.e (.lt (.lit 27) (.var 2))) (.and (.e (.his 6 (.var 0) (.add (.var 1) (.lit 27)) 0 (.int .u8))) (.and (.e (.lt (.lit 28) (.var 2))) (.and (.e (.his 6 (.var 0) (.add (.var 1) (.lit 28)) 0 (.int .u8))) (.and (.e (.lt (.lit 29) (.var 2))) (.and (.e (.his 6 (.var 0) (.add (.var 1) (.lit 29)) 0 (.int .u8))) (.and (.e (.lt (.lit 30) (.var 2))) (.and (.e (.his 6 (.var 0) (.add (.var 1) (.lit 30)) 0 (.int .u8))) (.and (.e (.lt (.lit 31) (.var 2))) (.and (.e (.his 6 (.var 0) (.add (.var 1) (.lit 31)) 0 (.int .u8))) (.and (.e (.le (.lit 8) (.var 3))) (.and (.e (.le (.lit 16) (.var 3))) (.and (.pre (.call 0 21 [.sv (.one (.sl (.var 0) (.var 1) (.lit 8) (.var 3)))] [] [.ro 6 [.var 0] false])) (.ext (.call 0 21 [.sv (.one (.sl (.var 0) (.var 1) (.lit 8) (.var 3)))] [] [.ro 6 [.var 0] false]) (.and (.pre (.call 0 22 [.sv (.one (.sl (.var 0) (.ite (.eq (.var 3) (.lit 8)) (.var 1) (.add (.var 1) (.lit 8))) (.lit 8) (.sub (.var 3) (.lit 8))))] [] [.ro 6 [.var 0] false])) (.ext (.call 0 22 [.sv (.one (.sl (.var 0) (.ite (.eq (.var 3) (.lit 8)) (.var 1) (.add (.var 1) (.lit 8))) (.lit 8) (.sub (.var 3) (.lit 8))))] [] [.ro 6 [.var 0] false]) (.and (.imp (.eq (.rem (.var 21) (.lit 2)) (.wrap .u64 (.var 4))) (.and (.imp (.lt (.wrap .u64 (.var 5)) (.var 22)) (.post [.ro 6 [.var 0] false, .dead, .dead] (.tup [.one (.int .u64 (.lit 0)), .one (.int .u64 (.lit 0)), .agg (List.replicate 16 (CV.int .u8 (.lit 0))), .one (.bool .ff)]))) (.imp (.not (.lt (.wrap .u64 (.var 5)) (.var 22))) (.post [.ro 6 [.var 0] false, .dead, .dead] (.tup [.one (.int .u64 (.var 21)), .one (.int .u64 (.var 22)), .agg noteCs, .one (.bool .tt)]))))) (.imp (.not (.eq (.rem (.var 21) (.lit 2)) (.wrap .u64 (.var 4)))) (.post [.ro 6 [.var 0] false, .dead, .dead] (.tup [.one (.int .u64 (.lit 0)), .one (.int .u64 (.lit 0)), .agg (List.replicate 16 (CV.int .u8 (.lit 0))), .one (.bool .ff)])))))))))))))))))))))))))))))))))))))))))))))))))
def rhΓ : List Sx.Spec := [numberS]
theorem rhΓ_ok : ∀ t ∈ rhΓ, t.OK Try.prog := fun t ht => by
  rw [rhΓ, List.mem_singleton] at ht; subst ht; exact numberS_ok
def rheadW : Walk Try.prog rhΓ rheadS.fn where
  Λ := fun p => if p == [35, 1, 1, 0, 1, 0] then some ⟨0, [(11, TI .i64 (.var 20))], [], 21⟩ else none
  args := [.sv (.one (.sl (.var 0) (.var 1) (.var 2) (.var 3))), TI .i64 (.var 4), TI .i64 (.var 5)]
  mem := [.ro 6 [.var 0] false]
  nv := 7
  nd := rheadNd
  ok := by kernel_rfl
theorem rhg0 : rhΓ[0]? = some numberS := rfl
theorem rhr0 : numberS.res = [.one (.int .u64)] := rfl
def rheadInv (bs : List Int) (_ : Nat) (q : Env) : Prop := ∃ i : Nat, q.i 20 = i ∧ i ≤ 32 ∧ ∀ j, j < i → bs[j]? = bs[32 + j]?
theorem rheadS_ok : rheadS.OK Try.prog := by
  refine Spec.of_fn (Γ := rhΓ) rhΓ_ok ?_
  rintro xs Hs Rs hl1 hl2 ⟨u, place, most, bs, R, rfl, rfl, hRC, hlen, hby, hpl, hm0, hm1⟩
  have e0 : Hs = [] := List.length_eq_zero_iff.1 hl1
  subst e0
  obtain ⟨x, y, cp, rfl, hy, hcp, hx, hc⟩ := id hRC
  refine ⟨rheadW, envI [x, y, bs.length, cp, place, most] false [Hl.none, Hl.none, Hl.none, Hl.none, Hl.none, Hl.none, R], rheadInv bs, fun _ q => (32 - q.i 20).toNat, ?_, ⟨?_, ?_, ?_, ?_⟩, (fun _ h => nomatch h), ?_⟩
  · show [Value.slice (slP x y) ((bs.length : Int)).toNat ((cp : Int)).toNat, Value.int .i64 place, Value.int .i64 most] = _
    rw [Int.toNat_natCast, Int.toNat_natCast]
  · intro r hr ho; simp [rheadW] at hr; subst hr; cases ho
  · intro r hr ho; simp [rheadW] at hr; subst hr; exact ⟨R, by simp, Hl.le_refl _⟩
  · simp [rheadW]
  · intro r hr; simp [rheadW] at hr; subst hr; trivial
  · show Nd.holds _ _ _ rheadNd
    generalize hρ : envI [x, y, bs.length, cp, place, most] false [Hl.none, Hl.none, Hl.none, Hl.none, Hl.none, Hl.none, R] = ρ
    have v0 : ρ.i 0 = x := by rw [← hρ]; rfl
    have v1 : ρ.i 1 = y := by rw [← hρ]; rfl
    have v2 : ρ.i 2 = 64 := by rw [← hρ]; show (bs.length : Int) = 64; omega
    have v3 : ρ.i 3 = cp := by rw [← hρ]; rfl
    have v4 : ρ.i 4 = place := by rw [← hρ]; rfl
    have v5 : ρ.i 5 = most := by rw [← hρ]; rfl
    have w6 : ρ.h 6 = R := by rw [← hρ]; rfl
    have cell : ∀ k : Int, 0 ≤ k → k < 64 → R.cell x.toNat (y + k).toNat = some (.int .u8 (bs.getD k.toNat 0)) := by
      intro k h0 h1
      rw [show (y + k).toNat = y.toNat + k.toNat by omega]
      refine hc _ _ ?_
      rw [List.getD_eq_getElem?_getD, List.getElem?_eq_getElem (by omega)]; rfl
    have hhis : ∀ k : Int, 0 ≤ k → k < 64 → valIs (R.cell x.toNat (y + k).toNat) (Kd.int .u8) = true := fun k h0 h1 => by rw [cell k h0 h1]; rfl
    have gete : ∀ k, k < 64 → bs[k]? = some (bs.getD k 0) := fun k hk => by rw [List.getD_eq_getElem?_getD, List.getElem?_eq_getElem (by omega)]; rfl
    have out : ∀ (q : Env) (t : Mem) (r : TV) (p : List Int × Bool), refH bs place most = p → p.1.length = 18 → r.ev q = headT p → postOf rheadS [.slice (slP x y) bs.length cp, .int .i64 place, .int .i64 most] [] [R] q t r := by
      intro q t r p hp hpl h _
      obtain ⟨a, b, l, hl, hll⟩ := list18 hpl
      obtain ⟨c, gc, _, ec⟩ := row_rep (u8s 16) 2 (bys (p.1.drop 2)) ⟨fun k => p.1.getD k 0, fun _ => p.2, fun _ => .empty, fun _ => .tuple #[], fun _ => Hl.none⟩ (rowOK_bys 16 _ (by rw [List.length_drop, hpl]))
      refine ⟨[], [], rfl, rfl, ⟨⟨c.i, fun _ => p.2, c.s, c.v, c.h⟩, ?_, ⟨trivial, trivial, ckNorms_pure _ _ _ (by decide), trivial, trivial⟩⟩, _, place, most, bs, R, rfl, rfl, hRC, by rw [hp]; exact h⟩
      rw [h]
      unfold headT
      have e2 : (ckCVs 2 (u8s 16)).map (CV.ev ⟨c.i, fun _ => p.2, c.s, c.v, c.h⟩) = bys (p.1.drop 2) := by
        rw [← ec]; rfl
      show _ = Value.tuple #[Value.int .u64 (c.i 0), Value.int .u64 (c.i 1), Value.agg ((ckCVs 2 (u8s 16)).map (CV.ev ⟨c.i, fun _ => p.2, c.s, c.v, c.h⟩)).toArray, Value.bool p.2]
      rw [e2, gc.i 0 (by omega), gc.i 1 (by omega)]
    unfold rheadNd
    simp only [Nd.holds, X.pre, X.rel, X.n, Src.ok, Src.len, Src.vals, true_and, and_true, if_true, Nat.mul_one, Nat.add_zero, Nat.reduceAdd, List.length_cons, List.length_nil, bT_tt, bT_ff, bT_bvar, bT_not, bT_and, bT_or, bT_ite, bT_lt, bT_le, bT_eq, bT_beq, bT_seq, bT_hB, bT_his, bT_hby, bT_hism, bT_hks, iev_lit, iev_var, iev_add, iev_sub, iev_mul, iev_wrap, iev_ite, iev_hI, iev_hP, iev_hmlen, sev_ite, sev_slit, sev_sof, sev_svar, TV.ev, SV.ev, CV.ev, List.map_cons, List.map_nil, Res.hl, cpTV, Cp.sv, Ck.cv, cpSVs, Cp.len, Ck.len, newHs_zero, newHs_one, roots_ne, rhg0, rhr0]
    intro q1 g1 _ q2 g2 _
    refine ⟨⟨0, rfl, by omega, fun j hj => by omega⟩, fun q g ⟨i, e20, hi, hsame⟩ => ?_⟩
    have G : Agree 7 ρ q := (g1.trans (g2.mono (by omega))).trans (g.mono (by omega))
    rw [e20, G.i 0 (by omega), v0, G.i 1 (by omega), v1, G.i 2 (by omega), v2, G.i 3 (by omega), v3, G.h 6 (by omega), w6]
    have zout : ∀ (q : Env) (t : Mem), ¬ goodH bs most place → postOf rheadS [.slice (slP x y) bs.length cp, .int .i64 place, .int .i64 most] [] [R] q t (.tup [.one (.int .u64 (.lit 0)), .one (.int .u64 (.lit 0)), .agg (List.replicate 16 (CV.int .u8 (.lit 0))), .one (.bool .ff)]) := fun q t h =>
      out q t _ (zeros18, false) (by unfold refH; rw [if_neg h]) rfl rfl
    refine ⟨fun hlt => ?_, fun hge => ?_⟩
    · have w32 : IntKind.i64.wrap (32 + (i : Int)) = 32 + i := wrap_i64 (by omega) (by omega)
      rw [w32, cell i (by omega) (by omega), cell (32 + i) (by omega) (by omega)]
      refine ⟨hx, hy, by omega, by omega, rfl, by omega, by omega, rfl, fun hne => zout _ _ fun hg => hne ?_, fun heq => ⟨⟨i + 1, ?_, by omega, fun j hj => ?_⟩, ?_⟩⟩
      · have this : (bs.take 32)[i]? = (bs.drop 32)[i]? := congrArg (fun l => l[i]?) hg.1
        rw [List.getElem?_take_of_lt (by omega), List.getElem?_drop, gete i (by omega), gete (32 + i) (by omega)] at this
        show bs.getD ((i : Int)).toNat 0 = bs.getD (32 + (i : Int)).toNat 0
        rw [show ((i : Int)).toNat = i by omega, show (32 + (i : Int)).toNat = 32 + i by omega]
        exact Option.some.inj this
      · show IntKind.i64.wrap (q.i 20 + 1) = _
        rw [e20, wrap_i64 (by omega) (by omega)]; omega
      · rcases Nat.lt_or_ge j i with h | h
        · exact hsame j h
        · obtain rfl : j = i := by omega
          rw [gete j (by omega), gete (32 + j) (by omega)]
          have heq : bs.getD ((j : Int)).toNat 0 = bs.getD (32 + (j : Int)).toNat 0 := heq
          rw [show ((j : Int)).toNat = j by omega, show (32 + (j : Int)).toNat = 32 + j by omega] at heq
          rw [heq]
      · show (32 - IntKind.i64.wrap (q.i 20 + 1)).toNat < _
        rw [e20, wrap_i64 (by omega) (by omega)]; omega
    · have hi32 : i = 32 := by omega
      subst hi32
      have hlike : bs.take 32 = bs.drop 32 := by
        apply List.ext_getElem?
        intro j
        rw [List.getElem?_drop]
        rcases Nat.lt_or_ge j 32 with h | h
        · rw [List.getElem?_take_of_lt h]; exact hsame j h
        · rw [List.getElem?_eq_none (by rw [List.length_take]; omega), List.getElem?_eq_none (by omega)]
      have ht8 : (bs.take 32).take 8 = bs.take 8 := by rw [List.take_take]; rfl
      have hd8 : ((bs.take 32).drop 8).take 8 = (bs.drop 8).take 8 := by
        rw [List.drop_take, List.take_take]; rfl
      have part : ∀ (o : Nat) (yy : Int) (c : Nat), yy = y + o → o + 8 ≤ 64 → RdW R (.slice (slP x yy) (Int.toNat 8) c) ((bs.drop o).take 8) ∧ ((bs.drop o).take 8).length = 8 := by
        intro o yy c hyy ho
        have hl : ((bs.drop o).take 8).length = 8 := by rw [List.length_take, List.length_drop]; omega
        refine ⟨⟨x, yy, c, by rw [hl]; rfl, by omega, Or.inr ⟨hx, fun j z hz => ?_⟩⟩, hl⟩
        rw [List.getElem?_take] at hz
        split at hz
        · rw [List.getElem?_drop] at hz
          rw [show yy.toNat + j = y.toNat + (o + j) by omega]
          exact hc _ _ hz
        · cases hz
      have bpart : ∀ o, byteL ((bs.drop o).take 8) := fun o b hb => hby b (List.mem_of_mem_drop (List.mem_of_mem_take hb))
      obtain ⟨p1, p2⟩ := part 0 y cp (by omega) (by omega)
      rw [List.drop_zero] at p1 p2
      rw [Int.toNat_natCast]
      refine ⟨hx, hy, by omega, hhis 16 (by omega) (by omega), by omega, hhis 17 (by omega) (by omega), by omega, hhis 18 (by omega) (by omega), by omega, hhis 19 (by omega) (by omega), by omega, hhis 20 (by omega) (by omega), by omega, hhis 21 (by omega) (by omega), by omega, hhis 22 (by omega) (by omega), by omega, hhis 23 (by omega) (by omega), by omega, hhis 24 (by omega) (by omega), by omega, hhis 25 (by omega) (by omega), by omega, hhis 26 (by omega) (by omega), by omega, hhis 27 (by omega) (by omega), by omega, hhis 28 (by omega) (by omega), by omega, hhis 29 (by omega) (by omega), by omega, hhis 30 (by omega) (by omega), by omega, hhis 31 (by omega) (by omega), by omega, by omega, ⟨_, _, _, rfl, rfl, p1, p2, by have := bpart 0; rwa [List.drop_zero] at this⟩, fun q3 g3 ⟨F3, ⟨u3, b3, R3, hx3, hR3, hrd3, hv3⟩, _, _⟩ => ?_⟩
      have hx3 : Value.slice (slP x y) (Int.toNat 8) cp = u3 := by simpa using hx3
      subst hx3
      have hR3 : R = R3 := by simpa using hR3
      subst hR3
      have e := hrd3.uniq p1
      subst e
      have h21 : q3.i 21 = bigI (bs.take 8) := by simpa using hv3
      have G3 : Agree 7 ρ q3 := G.trans (g3.mono (by omega))
      have eY : (if (cp : Int) = 8 then y else y + 8) = y + 8 := if_neg (by omega)
      rw [G3.i 0 (by omega), v0, G3.i 1 (by omega), v1, G3.i 3 (by omega), v3, G3.h 6 (by omega), w6, eY]
      obtain ⟨p3, p4⟩ := part 8 (y + 8) ((cp : Int) - 8).toNat (by omega) (by omega)
      refine ⟨⟨_, _, _, rfl, rfl, p3, p4, bpart 8⟩, fun q4 g4 ⟨F4, ⟨u4, b4, R4, hx4, hR4, hrd4, hv4⟩, _, _⟩ => ?_⟩
      have hx4 : Value.slice (slP x (y + 8)) (Int.toNat 8) ((cp : Int) - 8).toNat = u4 := by simpa using hx4
      subst hx4
      have hR4 : R = R4 := by simpa using hR4
      subst hR4
      have e := hrd4.uniq p3
      subst e
      have h22 : q4.i 22 = bigI ((bs.drop 8).take 8) := by simpa using hv4
      have h21' : q4.i 21 = bigI (bs.take 8) := by rw [g4.i 21 (by omega), h21]
      have G4 : Agree 7 ρ q4 := G3.trans (g4.mono (by omega))
      have wp : IntKind.u64.wrap place = place := wrap_u64 (by omega) (by omega)
      have wm : IntKind.u64.wrap most = most := wrap_u64 hm0 (by omega)
      rw [iev_rem, iev_var, iev_lit, h21', h22, G4.i 4 (by omega), v4, G4.i 5 (by omega), v5, wp, wm]
      have hgood : goodH bs most place ↔ (bigI (bs.take 8)).tmod 2 = place ∧ bigI ((bs.drop 8).take 8) ≤ most := by
        unfold goodH
        rw [ht8, hd8]
        exact ⟨fun h => h.2, fun h => ⟨hlike, h⟩⟩
      refine ⟨fun h1 => ⟨fun h2 => zout _ _ fun hg => ?_, fun h2 => ?_⟩, fun h1 => zout _ _ fun hg => h1 (hgood.1 hg).1⟩
      · have := (hgood.1 hg).2; omega
      · have hg : goodH bs most place := hgood.2 ⟨h1, by omega⟩
        have hxl : (bs.take 32).length = 32 := by rw [List.length_take]; omega
        refine out q4 _ _ (headI (bs.take 32), true) (by unfold refH; rw [if_pos hg]) ?_ ?_
        · unfold headI
          simp only [List.length_append, List.length_cons, List.length_nil, List.length_take, List.length_drop, hlen]
          rfl
        · have en : noteCs.map (CV.ev q4) = bys (((bs.take 32).drop 16).take 16) := by
            unfold noteCs
            rw [List.map_map]
            apply List.ext_getElem?
            intro j
            rw [List.getElem?_map, bys_get]
            rcases Nat.lt_or_ge j 16 with hj | hj
            · rw [List.getElem?_range hj, Option.map_some, List.getElem?_take_of_lt hj, List.getElem?_drop, List.getElem?_take_of_lt (by omega), gete (16 + j) (by omega)]
              show some (Value.int .u8 (iev q4 (.hI 6 (.var 0) (.add (.var 1) (.lit ((16 + j : Nat) : Int))) 0))) = _
              rw [iev_hI, iev_add, iev_var, iev_var, iev_lit, G4.i 0 (by omega), v0, G4.i 1 (by omega), v1, G4.h 6 (by omega), w6, Nat.add_zero, cell _ (by omega) (by omega), Int.toNat_natCast]
              rfl
            · rw [List.getElem?_eq_none (by simpa using hj), List.getElem?_eq_none (by rw [List.length_take]; omega)]; rfl
          show Value.tuple #[Value.int .u64 (q4.i 21), Value.int .u64 (q4.i 22), Value.agg (noteCs.map (CV.ev q4)).toArray, Value.bool true] = _
          rw [en, h21', h22, ← ht8, ← hd8]
          rfl
end Go.Proofs.Ytnpepkjfeadbjaa
