/- Layer 8: big, note, as contracts. Condition: eight bytes at most. -/
import Derived.Test.YtomdimlnggpgbaaDoorDsG
set_option linter.unusedSimpArgs false
set_option linter.unusedVariables false
set_option linter.constructorNameAsVariable false
namespace Go.Proofs.YtomdimlnggpgbaaDoor.D
open Go Go.Sx

def bigB (n c : Int) : Int := bitsI .or .u64 (IntKind.u64.wrap (n * 2 ^ (min (Int.toNat 8) IntKind.u64.bits))) (IntKind.u64.wrap c)
/-- The number of some bytes, the greatest first. -/
def bigI (bs : List Int) : Int := bs.foldl bigB 0
theorem bigI_take (bs : List Int) (k : Nat) (h : k < bs.length) : bigI (bs.take (k + 1)) = bigB (bigI (bs.take k)) bs[k] := by
  unfold bigI
  rw [List.take_add_one, List.getElem?_eq_getElem h, List.foldl_append]; rfl
def bigS : Sx.Spec where
  fn := 105
  own := []
  rd := [0]
  res := [.one (.int .u64)]
  pre := fun xs Hs Rs => ∃ u bs R, xs = [u] ∧ Rs = [R] ∧ RdW R u bs ∧ bs.length ≤ 1000
  post := fun xs Hs Rs v Hs' F => ∃ u bs R, xs = [u] ∧ Rs = [R] ∧ RdW R u bs ∧ v = .int .u64 (bigI bs)
def bigNd : Nd := .and (.e (.le (.lit 0) (.var 2))) (.and (.inv 0 [⟨10, 0, .int .i64 (.lit 0)⟩, ⟨11, 0, .int .i64 (.lit 0)⟩] []) (.havoc 0 0 5 (.and (.imp (.lt (.var 11) (.var 2)) (.and (.e (.le (.lit 0) (.var 0))) (.and (.e (.le (.lit 0) (.var 1))) (.and (.e (.le (.lit 0) (.var 11))) (.and (.e (.his 4 (.var 0) (.add (.var 1) (.var 11)) 0 (.int .u8))) (.back 0 0 [⟨10, 0, .int .i64 (.bits .or .u64 (.shl .u64 (.var 10) (.lit 8)) (.wrap .u64 (.hI 4 (.var 0) (.add (.var 1) (.var 11)) 0)))⟩, ⟨11, 0, .int .i64 (.wrap .i64 (.add (.var 11) (.lit 1)))⟩] [])))))) (.imp (.not (.lt (.var 11) (.var 2))) (.post [.ro 4 [.var 0] false] (.sv (.one (.int .u64 (.var 10)))))))))
def bigW : Walk Tryd.prog [] bigS.fn where
  Λ := fun p => if lp p then some ⟨0, [(3, TI .u64 (.var 10)), (8, TI .i64 (.var 11))], [], 12⟩ else none
  args := [.sv (.one (.sl (.var 0) (.var 1) (.var 2) (.var 3)))]
  mem := [.ro 4 [.var 0] false]
  nv := 5
  nd := bigNd
  ok := by kernel_rfl
def bigInv (bs : List Int) (_ : Nat) (q : Env) : Prop := ∃ k : Nat, k ≤ bs.length ∧ q.i 11 = k ∧ q.i 10 = bigI (bs.take k)
theorem bigS_ok : bigS.OK Tryd.prog := by
  refine Spec.of_fn (Γ := []) (fun _ h => by cases h) ?_
  rintro xs Hs Rs hl1 hl2 ⟨u, bs, R, rfl, rfl, ⟨x, y, cp, rfl, hy, hR⟩, hlen⟩
  have e0 : Hs = [] := List.length_eq_zero_iff.1 hl1
  subst e0
  refine ⟨bigW, envI [x, y, bs.length, cp] false [Hl.none, Hl.none, Hl.none, Hl.none, R], bigInv bs, fun _ q => (bs.length - q.i 11).toNat, ?_, ⟨?_, ?_, ?_, ?_⟩, (fun _ h => nomatch h), ?_⟩
  · show [Value.slice (slP x y) ((bs.length : Int)).toNat ((cp : Int)).toNat] = _
    rw [Int.toNat_natCast, Int.toNat_natCast]
  · intro r hr ho; simp [bigW] at hr; subst hr; cases ho
  · intro r hr ho; simp [bigW] at hr; subst hr; exact ⟨R, by simp, Hl.le_refl _⟩
  · simp [bigW]
  · intro r hr; simp [bigW] at hr; subst hr; trivial
  · show Nd.holds _ _ _ bigNd
    generalize hρ : envI [x, y, bs.length, cp] false [Hl.none, Hl.none, Hl.none, Hl.none, R] = ρ
    have v0 : ρ.i 0 = x := by rw [← hρ]; rfl
    have v1 : ρ.i 1 = y := by rw [← hρ]; rfl
    have v2 : ρ.i 2 = bs.length := by rw [← hρ]; rfl
    have w4 : ρ.h 4 = R := by rw [← hρ]; rfl
    unfold bigNd
    simp only [Nd.holds, X.pre, X.rel, X.n, Src.ok, Src.len, Src.vals, true_and, and_true, if_true, Nat.mul_one, Nat.add_zero, Nat.reduceAdd, List.length_cons, List.length_nil, bT_tt, bT_ff, bT_bvar, bT_not, bT_and, bT_or, bT_ite, bT_lt, bT_le, bT_eq, bT_beq, bT_seq, bT_hB, bT_his, bT_hby, bT_hism, bT_hks, iev_lit, iev_var, iev_add, iev_sub, iev_mul, iev_wrap, iev_ite, iev_hI, iev_hP, iev_hmlen, sev_ite, sev_slit, sev_sof, sev_svar, TV.ev, SV.ev, CV.ev, List.map_cons, List.map_nil, Res.hl]
    rw [v2]
    refine ⟨by omega, ⟨0, by omega, rfl, rfl⟩, fun q g ⟨k, hk, h11, h10⟩ => ?_⟩
    rw [g.i 0 (by omega), g.i 1 (by omega), g.i 2 (by omega), g.h 4 (by omega), v0, v1, v2, w4, h11]
    refine ⟨fun hlt => ?_, fun hge => ?_⟩
    · have hk' : k < bs.length := by omega
      have hxr : 0 ≤ x ∧ ∀ j z, bs[j]? = some z → R.cell x.toNat (y.toNat + j) = some (.int .u8 z) := by
        rcases hR with h | h
        · subst h; simp at hk'
        · exact h
      have hc : R.cell x.toNat (y + k).toNat = some (.int .u8 bs[k]) := by
        rw [show (y + (k : Int)).toNat = y.toNat + k by omega]
        exact hxr.2 _ _ (List.getElem?_eq_getElem hk')
      rw [hc]
      refine ⟨hxr.1, hy, by omega, rfl, ⟨k + 1, by omega, ?_, ?_⟩, ?_⟩
      · show IntKind.i64.wrap (q.i 11 + 1) = _
        rw [h11]; exact wrap_i64 (by omega) (by omega)
      · show bigB (q.i 10) (valI ((q.h 4).cell (q.i 0).toNat (q.i 1 + q.i 11).toNat)) = _
        rw [h10, g.i 0 (by omega), g.i 1 (by omega), g.h 4 (by omega), v0, v1, w4, h11, hc, bigI_take bs k hk']
        rfl
      · show ((bs.length : Int) - IntKind.i64.wrap (q.i 11 + 1)).toNat < _
        rw [h11, wrap_i64 (by omega) (by omega)]; omega
    · have e : k = bs.length := by omega
      subst e
      rw [List.take_length] at h10
      refine fun _ => ⟨[], [], rfl, rfl, ⟨⟨fun _ => q.i 10, fun _ => false, fun _ => .empty, fun _ => .tuple #[], fun _ => Hl.none⟩, rfl, trivial, trivial⟩, _, bs, R, rfl, rfl, ⟨x, y, cp, rfl, hy, hR⟩, ?_⟩
      show Value.int .u64 (q.i 10) = _
      rw [h10]
end Go.Proofs.YtomdimlnggpgbaaDoor.D
