/- Layer 7: law07.Full's bytes, as a contract. No condition. -/
import Derived.Test.YtomdimlnggpgbaaDoorRows
import Derived.Test.YtomdimlnggpgbaaDoorSxE
set_option linter.unusedSimpArgs false
set_option linter.unusedVariables false
set_option linter.constructorNameAsVariable false
namespace Go.Proofs.YtomdimlnggpgbaaDoor.D
open Go Go.Sx

def noLoops : Loops := fun _ => none
/-- An environment of integers told one by one. -/
def envI (l : List Int) (b : Bool) (hs : List Hl) : Env := ⟨fun k => l.getD k 0, fun _ => b, fun _ => .empty, fun _ => .tuple #[], fun k => hs.getD k Hl.none⟩

/-- A sector's bytes. -/
def fullL (c : Int) (bs : List Int) : List Int := (List.range 64).map fun i => (bs[i]?).getD c
theorem fullL_length (c : Int) (bs : List Int) : (fullL c bs).length = 64 := by simp [fullL]
theorem fullL_get (c : Int) (bs : List Int) (i : Nat) (h : i < 64) : (fullL c bs)[i]? = some ((bs[i]?).getD c) := by
  unfold fullL; rw [List.getElem?_map, List.getElem?_range h]; rfl
theorem fullL_take (c : Int) (bs : List Int) (i : Nat) (h : i < 64) : (fullL c bs).take (i + 1) = (fullL c bs).take i ++ [(bs[i]?).getD c] := by
  rw [List.take_add_one, fullL_get c bs i h]; rfl

def fullS : Sx.Spec where
  fn := 20
  own := []
  rd := [1]
  res := [.one .sl]
  pre := fun xs Hs Rs => ∃ c u bs R, xs = [.int .u8 c, u] ∧ Rs = [R] ∧ RdW R u bs
  post := fun xs Hs Rs v Hs' F => ∃ c u bs R, xs = [.int .u8 c, u] ∧ Rs = [R] ∧ RdW R u bs ∧ OwB F 5 v (fullL c bs)
def fullNd : Nd := .and (.inv 0 [⟨10, 0, .int .i64 (.lit (-1))⟩, ⟨12, 0, .int .i64 (.lit 0)⟩, ⟨13, 0, .int .i64 (.lit 0)⟩, ⟨14, 0, .int .i64 (.lit 0)⟩] [(10, none)]) (.havoc 0 0 5 (.and (.imp (.lt (.var 14) (.lit 64)) (.and (.e (.le (.lit 0) (.var 3))) (.and (.imp (.lt (.var 14) (.var 3)) (.and (.e (.le (.lit 0) (.var 1))) (.and (.e (.le (.lit 0) (.var 2))) (.and (.e (.le (.lit 0) (.var 14))) (.and (.e (.his 0 (.var 1) (.add (.var 2) (.var 14)) 0 (.int .u8))) (.ext (.alloc 15) (.and (.pre (.app 16 5 1 1 (.sl (.var 10) (.lit 0) (.var 12) (.var 13)) (.var 12) (.hp 10 [] [.var 10] []) (.cvs [.int .u8 (.hI 0 (.var 1) (.add (.var 2) (.var 14)) 0)] 1))) (.ext (.app 16 5 1 1 (.sl (.var 10) (.lit 0) (.var 12) (.var 13)) (.var 12) (.hp 10 [] [.var 10] []) (.cvs [.int .u8 (.hI 0 (.var 1) (.add (.var 2) (.var 14)) 0)] 1)) (.back 0 0 [⟨10, 0, .int .i64 (.var 16)⟩, ⟨12, 0, .int .i64 (.add (.var 12) (.lit 1))⟩, ⟨13, 0, .int .i64 (.var 17)⟩, ⟨14, 0, .int .i64 (.wrap .i64 (.add (.var 14) (.lit 1)))⟩] [(10, some 16)]))))))))) (.imp (.not (.lt (.var 14) (.var 3))) (.ext (.alloc 15) (.and (.pre (.app 16 5 1 1 (.sl (.var 10) (.lit 0) (.var 12) (.var 13)) (.var 12) (.hp 10 [] [.var 10] []) (.cvs [.int .u8 (.var 0)] 1))) (.ext (.app 16 5 1 1 (.sl (.var 10) (.lit 0) (.var 12) (.var 13)) (.var 12) (.hp 10 [] [.var 10] []) (.cvs [.int .u8 (.var 0)] 1)) (.back 0 0 [⟨10, 0, .int .i64 (.var 16)⟩, ⟨12, 0, .int .i64 (.add (.var 12) (.lit 1))⟩, ⟨13, 0, .int .i64 (.var 17)⟩, ⟨14, 0, .int .i64 (.wrap .i64 (.add (.var 14) (.lit 1)))⟩] [(10, some 16)])))))))) (.imp (.not (.lt (.var 14) (.lit 64))) (.post [.ro 0 [.var 1] false, .hp 10 [] [.var 10] []] (.sv (.one (.sl (.var 10) (.lit 0) (.var 12) (.var 13))))))))
def fullW : Walk Tryd.prog [] fullS.fn where
  Λ := fun p => if lp p then some ⟨0, [(5, .sv (.one (.sl (.var 10) (.lit 0) (.var 12) (.var 13)))), (6, TI .i64 (.var 14))], [(1, .hp 10 [] [.var 10] [])], 15⟩ else none
  args := [TI .u8 (.var 0), .sv (.one (.sl (.var 1) (.var 2) (.var 3) (.var 4)))]
  mem := [.ro 0 [.var 1] false]
  nv := 5
  nd := fullNd
  ok := by kernel_rfl
def fullInv (c : Int) (bs : List Int) (_ : Nat) (q : Env) : Prop := ∃ k : Nat, k ≤ 64 ∧ q.i 14 = k ∧ q.i 12 = k ∧ -1 ≤ q.i 10 ∧ 0 ≤ q.i 13 ∧ OwB (q.h 10) 5 (.slice (slP (q.i 10) 0) (q.i 12).toNat (q.i 13).toNat) ((fullL c bs).take k)

theorem fullS_ok : fullS.OK Tryd.prog := by
  refine Spec.of_fn (Γ := []) (fun _ h => by cases h) ?_
  rintro xs Hs Rs hl1 hl2 ⟨c, u, bs, R, rfl, rfl, x, y, cp, rfl, hy, hR⟩
  have e0 : Hs = [] := List.length_eq_zero_iff.1 hl1
  subst e0
  refine ⟨fullW, envI [c, x, y, bs.length, cp] false [R], fullInv c bs, fun _ q => (64 - q.i 14).toNat, ?_, ⟨?_, ?_, ?_, ?_⟩, (fun _ h => nomatch h), ?_⟩
  · simp [fullW, TI, TV.ev, SV.ev, CV.ev, iev_var, envI]
  · intro r hr ho; simp [fullW] at hr; subst hr; cases ho
  · intro r hr ho; simp [fullW] at hr; subst hr; exact ⟨R, by simp, Hl.le_refl _⟩
  · simp [fullW]
  · intro r hr; simp [fullW] at hr; subst hr; trivial
  · show Nd.holds _ _ _ fullNd
    unfold fullNd
    simp only [Nd.holds, X.pre, X.rel, X.n, Src.ok, Src.len, Src.vals, true_and, and_true, if_true, Nat.mul_one, Nat.add_zero, Nat.reduceAdd, List.length_cons, List.length_nil, bT_tt, bT_ff, bT_bvar, bT_not, bT_and, bT_or, bT_ite, bT_lt, bT_le, bT_eq, bT_beq, bT_seq, bT_hB, bT_his, bT_hby, bT_hism, bT_hks, iev_lit, iev_var, iev_add, iev_sub, iev_mul, iev_wrap, iev_ite, iev_hI, iev_hP, iev_hmlen, sev_ite, sev_slit, sev_sof, sev_svar, TV.ev, SV.ev, CV.ev, List.map_cons, List.map_nil, Res.hl]
    refine ⟨⟨0, by omega, ?_⟩, fun q g ⟨k, hk, e14, e12, h10, h13, hO⟩ => ?_⟩
    · refine ⟨rfl, rfl, by show (-1 : Int) ≤ -1; omega, by show (0 : Int) ≤ 0; omega, rfl, Or.inl ⟨rfl, rfl⟩⟩
    · have e0 : q.i 0 = c := g.i 0 (by omega)
      have e1 : q.i 1 = x := g.i 1 (by omega)
      have e2 : q.i 2 = y := g.i 2 (by omega)
      have e3 : q.i 3 = bs.length := g.i 3 (by omega)
      have eh : q.h 0 = R := g.h 0 (by omega)
      have hlen : ((fullL c bs).take k).length = k := by rw [List.length_take, fullL_length]; omega
      have hO' : ∀ q1, Agree 15 q q1 → OwnsH (q1.h 10) 5 1 (.slice (slP (q1.i 10) 0) (q1.i 12).toNat (q1.i 13).toNat) (q1.i 12).toNat (bys ((fullL c bs).take k)) := by
        intro q1 g1
        rw [g1.h 10 (by omega), g1.i 10 (by omega), g1.i 12 (by omega), g1.i 13 (by omega)]
        unfold OwB at hO
        rw [hlen] at hO
        rw [show (q.i 12).toNat = k by omega] at hO ⊢
        exact hO
      have hpre : ∀ q1, Agree 15 q q1 → k < 64 → (∃ xs, OwnsH (q1.h 10) 5 1 (.slice (slP (q1.i 10) 0) (q1.i 12).toNat (q1.i 13).toNat) (q1.i 12).toNat xs) ∧ 0 ≤ q1.i 12 ∧ (q1.i 12).toNat + 1 ≤ maxLen ∧ (q1.i 12).toNat + 1 ≤ 140737488355328 := by
        intro q1 g1 hk64
        have := g1.i 12 (by omega)
        exact ⟨⟨_, hO' q1 g1⟩, by omega, by unfold maxLen; omega, by omega⟩
      have step : ∀ (q1 q2 : Env) (z : Int), Agree 15 q q1 → Agree 16 q1 q2 → k < 64 → (bs[k]?).getD c = z → -1 ≤ q2.i 16 → 0 ≤ q2.i 17 →
          (∀ xs, OwnsH (q1.h 10) 5 1 (.slice (slP (q1.i 10) 0) (q1.i 12).toNat (q1.i 13).toNat) (q1.i 12).toNat xs → OwnsH (q2.h 16) 5 1 (.slice (slP (q2.i 16) 0) ((q1.i 12).toNat + 1) (q2.i 17).toNat) ((q1.i 12).toNat + 1) (xs ++ [.int .u8 z])) →
          fullInv c bs 0 (assign q2 [⟨10, 0, .int .i64 (.var 16)⟩, ⟨12, 0, .int .i64 (.add (.var 12) (.lit 1))⟩, ⟨13, 0, .int .i64 (.var 17)⟩, ⟨14, 0, .int .i64 (.wrap .i64 (.add (.var 14) (.lit 1)))⟩] [(10, some 16)]) ∧
          (64 - (assign q2 [⟨10, 0, .int .i64 (.var 16)⟩, ⟨12, 0, .int .i64 (.add (.var 12) (.lit 1))⟩, ⟨13, 0, .int .i64 (.var 17)⟩, ⟨14, 0, .int .i64 (.wrap .i64 (.add (.var 14) (.lit 1)))⟩] [(10, some 16)]).i 14).toNat < (64 - q.i 14).toNat := by
        intro q1 q2 z g1 g2 hk64 hz a1 a2 a3
        have d12 : q2.i 12 = k := by rw [g2.i 12 (by omega), g1.i 12 (by omega), e12]
        have d14 : q2.i 14 = k := by rw [g2.i 14 (by omega), g1.i 14 (by omega), e14]
        have w : IntKind.i64.wrap ((k : Int) + 1) = k + 1 := wrap_i64 (by omega) (by omega)
        have m14 : (assign q2 [⟨10, 0, .int .i64 (.var 16)⟩, ⟨12, 0, .int .i64 (.add (.var 12) (.lit 1))⟩, ⟨13, 0, .int .i64 (.var 17)⟩, ⟨14, 0, .int .i64 (.wrap .i64 (.add (.var 14) (.lit 1)))⟩] [(10, some 16)]).i 14 = k + 1 := by
          show IntKind.i64.wrap (q2.i 14 + 1) = _
          rw [d14, w]
        refine ⟨⟨k + 1, by omega, by rw [m14]; omega, ?_, a1, a2, ?_⟩, by rw [m14]; omega⟩
        · show q2.i 12 + 1 = _
          rw [d12]; omega
        · show OwB (q2.h 16) 5 (.slice (slP (q2.i 16) 0) (q2.i 12 + 1).toNat (q2.i 17).toNat) _
          have := a3 _ (hO' q1 g1)
          rw [fullL_take c bs k hk64, hz]
          unfold OwB
          rw [bys_append, List.length_append, hlen]
          rw [show (q1.i 12).toNat = k by rw [g1.i 12 (by omega)]; omega] at this
          rw [show (q2.i 12 + 1).toNat = k + 1 by omega]
          exact this
      refine ⟨fun hlt => ⟨by omega, fun h3 => ?_, fun h3 q1 g1 _ => ⟨hpre q1 g1 (by omega), fun q2 g2 ⟨a1, a2, a3, _⟩ => step q1 q2 _ g1 g2 (by omega) ?_ a1 a2 a3⟩⟩, fun hge => ?_⟩
      · rcases hR with h | ⟨hx, hR⟩
        · subst h; simp only [List.length_nil] at e3; omega
        · have hkb : k < bs.length := by omega
          have hc : R.cell x.toNat (y.toNat + k) = some (.int .u8 bs[k]) := hR k _ (List.getElem?_eq_getElem hkb)
          have ea : (q.i 2 + q.i 14).toNat = y.toNat + k := by omega
          refine ⟨by omega, by omega, by omega, by rw [eh, e1, ea, hc]; rfl, fun q1 g1 _ => ⟨hpre q1 g1 (by omega), fun q2 g2 ⟨a1, a2, a3, _⟩ => step q1 q2 _ g1 g2 (by omega) ?_ a1 a2 a3⟩⟩
          rw [g1.h 0 (by omega), g1.i 1 (by omega), g1.i 2 (by omega), g1.i 14 (by omega), eh, e1, ea, hc, List.getElem?_eq_getElem hkb]
          rfl
      · rw [g1.i 0 (by omega), e0, List.getElem?_eq_none (by omega)]; rfl
      · have hk64 : k = 64 := by omega
        subst hk64
        refine fun _ => ⟨[], [1], rfl, rfl, ⟨⟨fun n => [q.i 10, 0, q.i 12, q.i 13].getD n 0, fun _ => false, fun _ => .empty, fun _ => .tuple #[], fun _ => Hl.none⟩, rfl, ⟨h10, Int.le_refl _, by show 0 ≤ q.i 12; omega, h13⟩, trivial⟩, c, _, bs, R, rfl, rfl, ⟨x, y, cp, rfl, hy, hR⟩, ?_⟩
        rw [List.take_of_length_le (by rw [fullL_length]; omega)] at hO
        show OwB (hls [q.h 10]) _ _ _
        rw [hls_one]; exact hO
end Go.Proofs.YtomdimlnggpgbaaDoor.D
