/- Layer 16, 17: control.slot, control.Formed, as contracts of values. No condition. -/
import Derived.Test.YtngboefkhfldgaaRows
import Derived.Test.YtngboefkhfldgaaSxE
set_option linter.unusedSimpArgs false
set_option linter.unusedVariables false
set_option linter.constructorNameAsVariable false
namespace Go.Proofs.Ytngboefkhfldgaa.V2
open Go Go.Sx

def i64 : Ck := .int .i64
def gk2 : List Ck := [i64, i64] ++ List.replicate 12 .bool ++ List.replicate 6 (.int .u64) ++ [i64]
def hk2 : List Ck := [i64, .int .u64] ++ List.replicate 32 (.int .u8) ++ [i64, .bool, .int .u64] ++ List.replicate 16 (.int .u8) ++ [.sl] ++ List.replicate 6 (.int .u64) ++ List.replicate 32 (.int .u8) ++ [i64] ++ List.replicate 32 (.int .u8)
def ck2 : List Ck := [i64, i64, .int .u64] ++ List.replicate 7 .sl

/-! ### A slot -/
def slotF (n : Int) (must : Bool) : Bool := decide (n = 48) || !must && decide (n = 0)
def slotG (xs : List Value) : Value := match xs with
  | [b, .bool m] => .bool (slotF (lenV b) m)
  | _ => .bool false
def slotS : Sx.Spec := pureS 33 [.one .sl, .one .bool] [.one .bool] (fun _ => True) slotG
def slotNd : Nd := .and (.e (.le (.lit 0) (.var 2))) (.and (.imp (.not (.eq (.var 2) (.lit 48))) (.and (.imp (.not (.bvar 4)) (.post [] (.sv (.one (.bool (.eq (.var 2) (.lit 0))))))) (.imp (.bvar 4) (.post [] (.sv (.one (.bool .ff))))))) (.imp (.eq (.var 2) (.lit 48)) (.post [] (.sv (.one (.bool .tt))))))
def slotW : Walk Try.prog [] 33 where
  Λ := noLoops
  args := (cpSVs 0 [.one .sl, .one .bool]).map .sv
  mem := []
  nv := 5
  nd := slotNd
  ok := by kernel_rfl
theorem slotS_ok : slotS.OK Try.prog := by
  refine pure_of (fun _ h => by cases h) slotW rfl rfl rfl (fun q _ _ => ?_) (fun q hq _ => ⟨fun _ _ => True, fun _ _ => 0, ?_⟩)
  · exact shape_bool _
  · have h2 : 0 ≤ q.i 2 := hq.1.2.2.1
    have e : ((q.i 2).toNat : Int) = q.i 2 := Int.toNat_of_nonneg h2
    have eG : slotG (inVs [.one .sl, .one .bool] q) = .bool (slotF (q.i 2) (q.b 4)) := by
      show Value.bool (slotF ((q.i 2).toNat : Int) (q.b 4)) = _
      rw [e]
    simp only [eG]
    show Nd.holds _ _ _ slotNd
    unfold slotNd slotF
    simp only [Nd.holds, X.pre, X.rel, X.n, Src.ok, Src.len, Src.vals, true_and, and_true, if_true, Nat.mul_one, Nat.add_zero, Nat.reduceAdd, List.length_cons, List.length_nil, bT_tt, bT_ff, bT_bvar, bT_not, bT_and, bT_or, bT_ite, bT_lt, bT_le, bT_eq, bT_beq, bT_seq, bT_hB, bT_his, bT_hby, bT_hism, bT_hks, iev_lit, iev_var, iev_rem, iev_quo, iev_add, iev_sub, iev_mul, iev_wrap, iev_ite, iev_hI, iev_hP, iev_hmlen, sev_ite, sev_slit, sev_sof, sev_svar, TV.ev, SV.ev, CV.ev, List.map_cons, List.map_nil, Res.hl, Value.bool.injEq, bev_tt, bev_ff]
    refine ⟨h2, fun h48 => ⟨fun hm => ?_, fun hm => ?_⟩, fun h48 => ?_⟩
    · rw [Bool.eq_iff_iff, bT_eq, iev_var, iev_lit]; simp [h48, hm]
    · simp [h48, hm]
    · simp [h48]

/-! ### A control -/
def cFormedF (op member cut : Int) (ls : List Int) (hand : Int) : Bool :=
  let some := ls.any fun n => decide (0 < n)
  let named := decide (1 ≤ member) && decide (member ≤ 6)
  ls.all (fun n => slotF n false) &&
    (if op = 1 ∨ op = 4 then decide (member = 0) && decide (cut = 0) && some && decide (hand = 0)
    else if op = 2 then named && decide (cut = 0) && some && decide (hand = 0)
    else if op = 3 then named && decide (cut ≤ 1048576) && some && decide (hand = 0)
    else if op = 5 then named && decide (cut = 0) && !some && decide (hand = 48)
    else false)
def cFormedV (c : Value) : Bool := cFormedF (atI c 0) (atI c 1) (atI c 2) [atL c 3, atL c 4, atL c 5, atL c 6, atL c 7, atL c 8] (atL c 9)
def cFormedG (xs : List Value) : Value := match xs with
  | [c] => .bool (cFormedV c)
  | _ => .bool false
def cFormedS : Sx.Spec := pureS 27 [.agg ck2] [.one .bool] (fun _ => True) cFormedG
def cFormedNd : Nd := .ext (.alloc 31) (.and (.inv 0 [⟨33, 1, .bool .ff⟩, ⟨32, 0, .int .i64 (.lit 0)⟩] []) (.havoc 0 0 32 (.and (.imp (.lt (.var 32) (.lit 6)) (.and (.e (.le (.lit 0) (.var 32))) (.and (.pre (.call 0 34 [.sv (.one (.sl (.ite (.eq (.var 32) (.lit 0)) (.var 3) (.ite (.eq (.var 32) (.lit 1)) (.var 7) (.ite (.eq (.var 32) (.lit 2)) (.var 11) (.ite (.eq (.var 32) (.lit 3)) (.var 15) (.ite (.eq (.var 32) (.lit 4)) (.var 19) (.var 23)))))) (.ite (.eq (.var 32) (.lit 0)) (.var 4) (.ite (.eq (.var 32) (.lit 1)) (.var 8) (.ite (.eq (.var 32) (.lit 2)) (.var 12) (.ite (.eq (.var 32) (.lit 3)) (.var 16) (.ite (.eq (.var 32) (.lit 4)) (.var 20) (.var 24)))))) (.ite (.eq (.var 32) (.lit 0)) (.var 5) (.ite (.eq (.var 32) (.lit 1)) (.var 9) (.ite (.eq (.var 32) (.lit 2)) (.var 13) (.ite (.eq (.var 32) (.lit 3)) (.var 17) (.ite (.eq (.var 32) (.lit 4)) (.var 21) (.var 25)))))) (.ite (.eq (.var 32) (.lit 0)) (.var 6) (.ite (.eq (.var 32) (.lit 1)) (.var 10) (.ite (.eq (.var 32) (.lit 2)) (.var 14) (.ite (.eq (.var 32) (.lit 3)) (.var 18) (.ite (.eq (.var 32) (.lit 4)) (.var 22) (.var 26)))))))), .sv (.one (.bool .ff))] [] [])) (.ext (.call 0 34 [.sv (.one (.sl (.ite (.eq (.var 32) (.lit 0)) (.var 3) (.ite (.eq (.var 32) (.lit 1)) (.var 7) (.ite (.eq (.var 32) (.lit 2)) (.var 11) (.ite (.eq (.var 32) (.lit 3)) (.var 15) (.ite (.eq (.var 32) (.lit 4)) (.var 19) (.var 23)))))) (.ite (.eq (.var 32) (.lit 0)) (.var 4) (.ite (.eq (.var 32) (.lit 1)) (.var 8) (.ite (.eq (.var 32) (.lit 2)) (.var 12) (.ite (.eq (.var 32) (.lit 3)) (.var 16) (.ite (.eq (.var 32) (.lit 4)) (.var 20) (.var 24)))))) (.ite (.eq (.var 32) (.lit 0)) (.var 5) (.ite (.eq (.var 32) (.lit 1)) (.var 9) (.ite (.eq (.var 32) (.lit 2)) (.var 13) (.ite (.eq (.var 32) (.lit 3)) (.var 17) (.ite (.eq (.var 32) (.lit 4)) (.var 21) (.var 25)))))) (.ite (.eq (.var 32) (.lit 0)) (.var 6) (.ite (.eq (.var 32) (.lit 1)) (.var 10) (.ite (.eq (.var 32) (.lit 2)) (.var 14) (.ite (.eq (.var 32) (.lit 3)) (.var 18) (.ite (.eq (.var 32) (.lit 4)) (.var 22) (.var 26)))))))), .sv (.one (.bool .ff))] [] []) (.and (.imp (.not (.bvar 34)) (.post [.dead] (.sv (.one (.bool .ff))))) (.imp (.bvar 34) (.and (.imp (.not (.bvar 33)) (.and (.e (.le (.lit 0) (.ite (.eq (.var 32) (.lit 0)) (.var 5) (.ite (.eq (.var 32) (.lit 1)) (.var 9) (.ite (.eq (.var 32) (.lit 2)) (.var 13) (.ite (.eq (.var 32) (.lit 3)) (.var 17) (.ite (.eq (.var 32) (.lit 4)) (.var 21) (.var 25)))))))) (.back 0 0 [⟨33, 1, .bool (.lt (.lit 0) (.ite (.eq (.var 32) (.lit 0)) (.var 5) (.ite (.eq (.var 32) (.lit 1)) (.var 9) (.ite (.eq (.var 32) (.lit 2)) (.var 13) (.ite (.eq (.var 32) (.lit 3)) (.var 17) (.ite (.eq (.var 32) (.lit 4)) (.var 21) (.var 25)))))))⟩, ⟨32, 0, .int .i64 (.wrap .i64 (.add (.var 32) (.lit 1)))⟩] []))) (.imp (.bvar 33) (.back 0 0 [⟨33, 1, .bool .tt⟩, ⟨32, 0, .int .i64 (.wrap .i64 (.add (.var 32) (.lit 1)))⟩] []))))))))) (.imp (.not (.lt (.var 32) (.lit 6))) (.and (.imp (.le (.lit 1) (.var 1)) (.and (.imp (.eq (.var 0) (.lit 1)) (.post [.dead] (.sv (.one (.bool .ff))))) (.imp (.not (.eq (.var 0) (.lit 1))) (.and (.imp (.eq (.var 0) (.lit 4)) (.post [.dead] (.sv (.one (.bool .ff))))) (.imp (.not (.eq (.var 0) (.lit 4))) (.and (.imp (.eq (.var 0) (.lit 2)) (.and (.imp (.le (.var 1) (.lit 6)) (.and (.imp (.eq (.var 2) (.lit 0)) (.and (.imp (.bvar 33) (.and (.e (.le (.lit 0) (.var 29))) (.post [.dead] (.sv (.one (.bool (.eq (.var 29) (.lit 0)))))))) (.imp (.not (.bvar 33)) (.post [.dead] (.sv (.one (.bool .ff))))))) (.imp (.not (.eq (.var 2) (.lit 0))) (.post [.dead] (.sv (.one (.bool .ff))))))) (.imp (.not (.le (.var 1) (.lit 6))) (.post [.dead] (.sv (.one (.bool .ff))))))) (.imp (.not (.eq (.var 0) (.lit 2))) (.and (.imp (.eq (.var 0) (.lit 3)) (.and (.imp (.le (.var 1) (.lit 6)) (.and (.imp (.le (.var 2) (.lit 1048576)) (.and (.imp (.bvar 33) (.and (.e (.le (.lit 0) (.var 29))) (.post [.dead] (.sv (.one (.bool (.eq (.var 29) (.lit 0)))))))) (.imp (.not (.bvar 33)) (.post [.dead] (.sv (.one (.bool .ff))))))) (.imp (.not (.le (.var 2) (.lit 1048576))) (.post [.dead] (.sv (.one (.bool .ff))))))) (.imp (.not (.le (.var 1) (.lit 6))) (.post [.dead] (.sv (.one (.bool .ff))))))) (.imp (.not (.eq (.var 0) (.lit 3))) (.and (.imp (.eq (.var 0) (.lit 5)) (.and (.imp (.le (.var 1) (.lit 6)) (.and (.imp (.eq (.var 2) (.lit 0)) (.and (.imp (.not (.bvar 33)) (.and (.pre (.call 0 34 [.sv (.one (.sl (.var 27) (.var 28) (.var 29) (.var 30))), .sv (.one (.bool .tt))] [] [])) (.ext (.call 0 34 [.sv (.one (.sl (.var 27) (.var 28) (.var 29) (.var 30))), .sv (.one (.bool .tt))] [] []) (.post [.dead] (.sv (.one (.bool (.bvar 34)))))))) (.imp (.bvar 33) (.post [.dead] (.sv (.one (.bool .ff))))))) (.imp (.not (.eq (.var 2) (.lit 0))) (.post [.dead] (.sv (.one (.bool .ff))))))) (.imp (.not (.le (.var 1) (.lit 6))) (.post [.dead] (.sv (.one (.bool .ff))))))) (.imp (.not (.eq (.var 0) (.lit 5))) (.post [.dead] (.sv (.one (.bool .ff))))))))))))))) (.imp (.not (.le (.lit 1) (.var 1))) (.and (.imp (.eq (.var 0) (.lit 1)) (.and (.imp (.eq (.var 1) (.lit 0)) (.and (.imp (.eq (.var 2) (.lit 0)) (.and (.imp (.bvar 33) (.and (.e (.le (.lit 0) (.var 29))) (.post [.dead] (.sv (.one (.bool (.eq (.var 29) (.lit 0)))))))) (.imp (.not (.bvar 33)) (.post [.dead] (.sv (.one (.bool .ff))))))) (.imp (.not (.eq (.var 2) (.lit 0))) (.post [.dead] (.sv (.one (.bool .ff))))))) (.imp (.not (.eq (.var 1) (.lit 0))) (.post [.dead] (.sv (.one (.bool .ff))))))) (.imp (.not (.eq (.var 0) (.lit 1))) (.and (.imp (.eq (.var 0) (.lit 4)) (.and (.imp (.eq (.var 1) (.lit 0)) (.and (.imp (.eq (.var 2) (.lit 0)) (.and (.imp (.bvar 33) (.and (.e (.le (.lit 0) (.var 29))) (.post [.dead] (.sv (.one (.bool (.eq (.var 29) (.lit 0)))))))) (.imp (.not (.bvar 33)) (.post [.dead] (.sv (.one (.bool .ff))))))) (.imp (.not (.eq (.var 2) (.lit 0))) (.post [.dead] (.sv (.one (.bool .ff))))))) (.imp (.not (.eq (.var 1) (.lit 0))) (.post [.dead] (.sv (.one (.bool .ff))))))) (.imp (.not (.eq (.var 0) (.lit 4))) (.and (.imp (.eq (.var 0) (.lit 2)) (.post [.dead] (.sv (.one (.bool .ff))))) (.imp (.not (.eq (.var 0) (.lit 2))) (.and (.imp (.eq (.var 0) (.lit 3)) (.post [.dead] (.sv (.one (.bool .ff))))) (.imp (.not (.eq (.var 0) (.lit 3))) (.and (.imp (.eq (.var 0) (.lit 5)) (.post [.dead] (.sv (.one (.bool .ff))))) (.imp (.not (.eq (.var 0) (.lit 5))) (.post [.dead] (.sv (.one (.bool .ff))))))))))))))))))))
def cFormedW : Walk Try.prog [slotS] 27 where
  Λ := fun p => if lp p then some ⟨0, [(9, TI .i64 (.var 32)), (3, .sv (.one (.bool (.bvar 33))))], [], 34⟩ else none
  args := (cpSVs 0 [.agg ck2]).map .sv
  mem := []
  nv := 31
  nd := cFormedNd
  ok := by kernel_rfl
def cLs (q : Env) : List Int := [q.i 5, q.i 9, q.i 13, q.i 17, q.i 21, q.i 25]
theorem cs1 : slotS.res = [.one .bool] := rfl
theorem cg0 : ([slotS] : List Sx.Spec)[0]? = some slotS := rfl
theorem cFormedS_ok : cFormedS.OK Try.prog := by
  refine pure_of (fun t h => by rw [List.mem_singleton] at h; subst h; exact slotS_ok) cFormedW rfl rfl rfl (fun q _ _ => ?_) (fun q hq _ => ?_)
  · exact shape_bool _
  · have l5 : 0 ≤ q.i 5 := hq.1.2.2.2.1.2.2.1
    have l9 : 0 ≤ q.i 9 := hq.1.2.2.2.2.1.2.2.1
    have l13 : 0 ≤ q.i 13 := hq.1.2.2.2.2.2.1.2.2.1
    have l17 : 0 ≤ q.i 17 := hq.1.2.2.2.2.2.2.1.2.2.1
    have l21 : 0 ≤ q.i 21 := hq.1.2.2.2.2.2.2.2.1.2.2.1
    have l25 : 0 ≤ q.i 25 := hq.1.2.2.2.2.2.2.2.2.1.2.2.1
    have l29 : 0 ≤ q.i 29 := hq.1.2.2.2.2.2.2.2.2.2.1.2.2.1
    have eG : cFormedG (inVs [.agg ck2] q) = .bool (cFormedF (q.i 0) (q.i 1) (q.i 2) (cLs q) (q.i 29)) := by
      show Value.bool (cFormedF (q.i 0) (q.i 1) (q.i 2) [((q.i 5).toNat : Int), ((q.i 9).toNat : Int), ((q.i 13).toNat : Int), ((q.i 17).toNat : Int), ((q.i 21).toNat : Int), ((q.i 25).toNat : Int)] ((q.i 29).toNat : Int)) = _
      rw [Int.toNat_of_nonneg l5, Int.toNat_of_nonneg l9, Int.toNat_of_nonneg l13, Int.toNat_of_nonneg l17, Int.toNat_of_nonneg l21, Int.toNat_of_nonneg l25, Int.toNat_of_nonneg l29]; rfl
    refine ⟨fun _ r => ∃ k : Nat, k ≤ 6 ∧ r.i 32 = k ∧ r.b 33 = ((cLs q).take k).any (fun n => decide (0 < n)) ∧ ((cLs q).take k).all (fun n => slotF n false) = true, fun _ r => (6 - r.i 32).toNat, ?_⟩
    simp only [eG]
    show Nd.holds _ _ _ cFormedNd
    unfold cFormedNd
    simp only [Nd.holds, X.pre, X.rel, X.n, Src.ok, Src.len, Src.vals, true_and, and_true, if_true, Nat.mul_one, Nat.add_zero, Nat.reduceAdd, List.length_cons, List.length_nil, bT_tt, bT_ff, bT_bvar, bT_not, bT_and, bT_or, bT_ite, bT_lt, bT_le, bT_eq, bT_beq, bT_seq, bT_hB, bT_his, bT_hby, bT_hism, bT_hks, iev_lit, iev_var, iev_rem, iev_quo, iev_add, iev_sub, iev_mul, iev_wrap, iev_ite, iev_hI, iev_hP, iev_hmlen, sev_ite, sev_slit, sev_sof, sev_svar, TV.ev, SV.ev, CV.ev, List.map_cons, List.map_nil, Res.hl, cpTV, Cp.sv, Ck.cv, cpSVs, Cp.len, Ck.len, newHs_zero, newHs_one, roots_ne, cg0, cs1, cpRoots, Cp.roots, Ck.root, Value.bool.injEq]
    have nrm : ∀ k : Nat, k < 6 → ckNormW (3 + 4 * k) q .sl := by
      intro k hk
      match k, hk with
      | 0, _ => exact hq.1.2.2.2.1
      | 1, _ => exact hq.1.2.2.2.2.1
      | 2, _ => exact hq.1.2.2.2.2.2.1
      | 3, _ => exact hq.1.2.2.2.2.2.2.1
      | 4, _ => exact hq.1.2.2.2.2.2.2.2.1
      | 5, _ => exact hq.1.2.2.2.2.2.2.2.2.1
      | n + 6, h => omega
    have nth : ∀ k : Nat, k < 6 → (cLs q)[k]? = some (q.i (3 + 4 * k + 2)) := by
      intro k hk
      match k, hk with
      | 0, _ => rfl
      | 1, _ => rfl
      | 2, _ => rfl
      | 3, _ => rfl
      | 4, _ => rfl
      | 5, _ => rfl
      | n + 6, h => omega
    have sel : ∀ (q2 : Env), Agree 31 q q2 → ∀ k : Nat, k < 6 → ∀ (j : Nat) (n : Int), j < 4 → n = k →
        (if n = 0 then q2.i (3 + j) else if n = 1 then q2.i (7 + j) else if n = 2 then q2.i (11 + j) else if n = 3 then q2.i (15 + j) else if n = 4 then q2.i (19 + j) else q2.i (23 + j)) = q.i (3 + 4 * k + j) := by
      intro q2 g k hk j n hj hn
      subst hn
      match k, hk with
      | 0, _ => exact g.i _ (by omega)
      | 1, _ => exact g.i _ (by omega)
      | 2, _ => exact g.i _ (by omega)
      | 3, _ => exact g.i _ (by omega)
      | 4, _ => exact g.i _ (by omega)
      | 5, _ => exact g.i _ (by omega)
      | n + 6, h => omega
    refine fun q1 g1 _ => ⟨⟨0, by omega, rfl, rfl, rfl⟩, ?_⟩
    intro q2 g2 hinv
    obtain ⟨k, hk, e32, e33, hall⟩ := hinv
    have G : Agree 31 q q2 := g1.trans (g2.mono (by omega))
    have spre : ∀ (x y l c : Int) (m : Bool), True → 0 ≤ y → 0 ≤ l → 0 ≤ c → slotS.pre [.slice (slP x y) l.toNat c.toNat, .bool m] [] [] := fun x y l c m h1 h2 h3 h4 =>
      ⟨⟨⟨fun j => [x, y, l, c].getD j 0, fun _ => m, fun _ => .empty, fun _ => .tuple #[], fun _ => Hl.none⟩, ⟨⟨h1, h2, h3, h4⟩, trivial, trivial⟩, rfl⟩, trivial⟩
    have spost : ∀ (x y l c : Int) (m : Bool) (b : Bool) (F : Hl), 0 ≤ l → slotS.post [.slice (slP x y) l.toNat c.toNat, .bool m] [] [] (.bool b) [] F → b = slotF l m := by
      intro x y l c m b F hl h
      have h : Value.bool b = .bool (slotF ((l.toNat : Int)) m) := h
      rw [Int.toNat_of_nonneg hl] at h
      exact Value.bool.inj h
    refine ⟨fun hlt => ?_, fun hge => ?_⟩
    · have h6 : k < 6 := by omega
      have s0 : (if q2.i 32 = 0 then q2.i 3 else if q2.i 32 = 1 then q2.i 7 else if q2.i 32 = 2 then q2.i 11 else if q2.i 32 = 3 then q2.i 15 else if q2.i 32 = 4 then q2.i 19 else q2.i 23) = q.i (3 + 4 * k) := sel q2 G k h6 0 _ (by omega) e32
      have s1 : (if q2.i 32 = 0 then q2.i 4 else if q2.i 32 = 1 then q2.i 8 else if q2.i 32 = 2 then q2.i 12 else if q2.i 32 = 3 then q2.i 16 else if q2.i 32 = 4 then q2.i 20 else q2.i 24) = q.i (3 + 4 * k + 1) := sel q2 G k h6 1 _ (by omega) e32
      have s2 : (if q2.i 32 = 0 then q2.i 5 else if q2.i 32 = 1 then q2.i 9 else if q2.i 32 = 2 then q2.i 13 else if q2.i 32 = 3 then q2.i 17 else if q2.i 32 = 4 then q2.i 21 else q2.i 25) = q.i (3 + 4 * k + 2) := sel q2 G k h6 2 _ (by omega) e32
      have s3 : (if q2.i 32 = 0 then q2.i 6 else if q2.i 32 = 1 then q2.i 10 else if q2.i 32 = 2 then q2.i 14 else if q2.i 32 = 3 then q2.i 18 else if q2.i 32 = 4 then q2.i 22 else q2.i 26) = q.i (3 + 4 * k + 3) := sel q2 G k h6 3 _ (by omega) e32
      obtain ⟨n0, n1, n2, n3⟩ := nrm k h6
      have ft : (cLs q).take (k + 1) = (cLs q).take k ++ [q.i (3 + 4 * k + 2)] := by rw [List.take_add_one, nth k h6]; rfl
      simp only [s0, s1, s2, s3]
      refine ⟨by omega, spre _ _ _ _ _ n0 n1 n2 n3, fun q3 g3 ⟨F, hp, _⟩ => ?_⟩
      have hb : q3.b 34 = slotF (q.i (3 + 4 * k + 2)) false := spost _ _ _ _ _ _ _ n2 hp
      have d32 : q3.i 32 = k := by rw [g3.i 32 (by omega), e32]
      have d33 : q3.b 33 = q2.b 33 := g3.b 33 (by omega)
      have w : IntKind.i64.wrap (q3.i 32 + 1) = k + 1 := by rw [d32]; exact wrap_i64 (by omega) (by omega)
      have s2' : ∀ q3 : Env, Agree 34 q2 q3 → (if q3.i 32 = 0 then q3.i 5 else if q3.i 32 = 1 then q3.i 9 else if q3.i 32 = 2 then q3.i 13 else if q3.i 32 = 3 then q3.i 17 else if q3.i 32 = 4 then q3.i 21 else q3.i 25) = q.i (3 + 4 * k + 2) := fun q3 g => by
        rw [g.i 32 (by omega), g.i 5 (by omega), g.i 9 (by omega), g.i 13 (by omega), g.i 17 (by omega), g.i 21 (by omega), g.i 25 (by omega)]; exact s2
      refine ⟨fun hnb => ?_, fun hyb => ⟨fun h33 => ⟨by rw [s2' q3 g3]; exact n2, ⟨k + 1, by omega, ?_, ?_, ?_⟩, ?_⟩, fun h33 => ⟨⟨k + 1, by omega, ?_, ?_, ?_⟩, ?_⟩⟩⟩
      · have : (cLs q).all (fun n => slotF n false) = false := by
          rw [List.all_eq_false]
          exact ⟨_, List.mem_of_getElem? (nth k h6), by rw [← hb]; exact hnb⟩
        unfold cFormedF
        simp only [this, Bool.false_and]
        exact bev_ff _
      · show IntKind.i64.wrap (q3.i 32 + 1) = _; omega
      · show bev q3 (.lt (.lit 0) _) = _
        rw [ft, List.any_append, ← e33, ← d33, Bool.eq_false_iff.2 h33, Bool.false_or, Bool.eq_iff_iff, bT_lt]
        simp only [iev_lit, iev_var, iev_rem, iev_quo, iev_add, iev_sub, iev_mul, iev_wrap, iev_ite, iev_hI, iev_hP, iev_hmlen, sev_ite, sev_slit, sev_sof, sev_svar, bT_tt, bT_ff, bT_bvar, bT_not, bT_and, bT_or, bT_ite, bT_lt, bT_le, bT_eq, bT_beq, bT_seq, bT_hB, bT_his, bT_hby, bT_hism, bT_hks]
        rw [s2' q3 g3]
        simp
      · rw [ft, List.all_append, hall]
        simp only [List.all_cons, List.all_nil, Bool.and_true, Bool.true_and]
        rw [← hb]; exact hyb
      · show (6 - IntKind.i64.wrap (q3.i 32 + 1)).toNat < _; omega
      · show IntKind.i64.wrap (q3.i 32 + 1) = _; omega
      · show true = _
        rw [ft, List.any_append, ← e33, ← d33, h33]; rfl
      · rw [ft, List.all_append, hall]
        simp only [List.all_cons, List.all_nil, Bool.and_true, Bool.true_and]
        rw [← hb]; exact hyb
      · show (6 - IntKind.i64.wrap (q3.i 32 + 1)).toNat < _; omega
    · have hk6 : k = 6 := by omega
      subst hk6
      have ft : (cLs q).take 6 = cLs q := rfl
      rw [ft] at e33 hall
      have i0 : q2.i 0 = q.i 0 := G.i 0 (by omega)
      have i1 : q2.i 1 = q.i 1 := G.i 1 (by omega)
      have i2 : q2.i 2 = q.i 2 := G.i 2 (by omega)
      have i27 : q2.i 27 = q.i 27 := G.i 27 (by omega)
      have i28 : q2.i 28 = q.i 28 := G.i 28 (by omega)
      have i29 : q2.i 29 = q.i 29 := G.i 29 (by omega)
      have i30 : q2.i 30 = q.i 30 := G.i 30 (by omega)
      unfold cFormedF
      rw [hall, i0, i1, i2, i27, i28, i29, i30]
      rw [← e33]
      simp only [Bool.true_and]
      have nh : ckNormW 27 q .sl := hq.1.2.2.2.2.2.2.2.2.2.1
      obtain ⟨n0, n1, n2, n3⟩ := nh
      have hsp := spre (q.i 27) (q.i 28) (q.i 29) (q.i 30) true n0 n1 n2 n3
      have hpo : ∀ b F, slotS.post [.slice (slP (q.i 27) (q.i 28)) (q.i 29).toNat (q.i 30).toNat, .bool true] [] [] (.bool b) [] F → b = decide (q.i 29 = 48) := fun b F h => by
        have := spost _ _ _ _ _ b F n2 h
        rw [this]; unfold slotF; simp
      generalize hv : q2.b 33 = v
      simp only [bev_ff, bev_tt]
      clear sel nth nrm spre spost eG hall e33 ft hq n0 n1 n2 n3 l5 l9 l13 l17 l21 l25 hge e32 hk g1 g2 G i27 i28 i30 i0 i1 i2
      repeat' (first | exact hsp | apply And.intro | (rintro ⟨F, hp, -⟩; have hb := hpo _ _ hp; clear hp) | intro _)
      all_goals try (first | omega | exact hsp)
      all_goals clear hsp hpo
      all_goals try (rw [Bool.eq_iff_iff, bT_eq, iev_var, iev_lit, i29])
      all_goals (cases v <;> (first | (simp_all; done) | (simp_all; omega) | (split <;> simp_all <;> omega)))
end Go.Proofs.Ytngboefkhfldgaa.V2
