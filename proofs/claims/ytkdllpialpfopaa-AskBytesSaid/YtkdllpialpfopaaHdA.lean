/- Layer 12: headers by what they tell; pad.Is, Bucket, entry.placed, as contracts of values. -/
import Derived.Test.YtkdllpialpfopaaTkA
set_option linter.unusedSimpArgs false
set_option linter.unusedVariables false
set_option linter.constructorNameAsVariable false
namespace Go.Proofs.Ytkdllpialpfopaa
open Go Go.Sx Go.Pk

def i64 : Ck := .int .i64
def hk2 : List Ck := [i64, .int .u64] ++ List.replicate 32 (.int .u8) ++ [i64, .bool, .int .u64] ++ List.replicate 16 (.int .u8) ++ [.sl] ++ List.replicate 6 (.int .u64) ++ List.replicate 32 (.int .u8) ++ [i64] ++ List.replicate 32 (.int .u8)
def hkd : List Kd := hk2.map kdOf
def cI (l : List Value) (k : Nat) : Int := valI l[k]?
def cB (l : List Value) (k : Nat) : Bool := valB l[k]?
/-! ### Buckets -/
def isPad (z : Int) : Prop := z = 64 ∨ z = 128 ∨ z = 256 ∨ z = 512 ∨ z = 1024 ∨ z = 2048
instance (z : Int) : Decidable (isPad z) := by unfold isPad; exact inferInstance
def buck (z : Int) : Int := if z < 64 then 64 else if z < 128 then 128 else if z < 256 then 256 else if z < 512 then 512 else if z < 1024 then 1024 else if z < 2048 then 2048 else 0
def i64in (z : Int) : Prop := -9223372036854775808 ≤ z ∧ z < 9223372036854775808
def padG (xs : List Value) : Value := .bool (decide (isPad (valI xs[0]?)))
def padS : Sx.Spec := pureS 47 [.one i64] [.one .bool] (fun xs => i64in (valI xs[0]?)) padG
def buckG (xs : List Value) : Value := .int .i64 (buck (valI xs[0]?))
def buckS : Sx.Spec := pureS 42 [.one i64] [.one i64] (fun _ => True) buckG
def padNd : Nd := .and (.imp (.lt (.wrap .i64 (.sub (.var 0) (.lit 1))) (.lit 0)) (.post [] (.sv (.one (.bool .ff))))) (.imp (.not (.lt (.wrap .i64 (.sub (.var 0) (.lit 1))) (.lit 0))) (.and (.imp (.lt (.wrap .i64 (.sub (.var 0) (.lit 1))) (.lit 64)) (.post [] (.sv (.one (.bool (.eq (.lit 64) (.var 0))))))) (.imp (.not (.lt (.wrap .i64 (.sub (.var 0) (.lit 1))) (.lit 64))) (.and (.imp (.lt (.wrap .i64 (.sub (.var 0) (.lit 1))) (.lit 128)) (.post [] (.sv (.one (.bool (.eq (.lit 128) (.var 0))))))) (.imp (.not (.lt (.wrap .i64 (.sub (.var 0) (.lit 1))) (.lit 128))) (.and (.imp (.lt (.wrap .i64 (.sub (.var 0) (.lit 1))) (.lit 256)) (.post [] (.sv (.one (.bool (.eq (.lit 256) (.var 0))))))) (.imp (.not (.lt (.wrap .i64 (.sub (.var 0) (.lit 1))) (.lit 256))) (.and (.imp (.lt (.wrap .i64 (.sub (.var 0) (.lit 1))) (.lit 512)) (.post [] (.sv (.one (.bool (.eq (.lit 512) (.var 0))))))) (.imp (.not (.lt (.wrap .i64 (.sub (.var 0) (.lit 1))) (.lit 512))) (.and (.imp (.lt (.wrap .i64 (.sub (.var 0) (.lit 1))) (.lit 1024)) (.post [] (.sv (.one (.bool (.eq (.lit 1024) (.var 0))))))) (.imp (.not (.lt (.wrap .i64 (.sub (.var 0) (.lit 1))) (.lit 1024))) (.and (.imp (.lt (.wrap .i64 (.sub (.var 0) (.lit 1))) (.lit 2048)) (.post [] (.sv (.one (.bool (.eq (.lit 2048) (.var 0))))))) (.imp (.not (.lt (.wrap .i64 (.sub (.var 0) (.lit 1))) (.lit 2048))) (.post [] (.sv (.one (.bool .ff)))))))))))))))))
def padW : Walk Try.prog [] 47 where
  Λ := noLoops
  args := (cpSVs 0 [.one i64]).map .sv
  mem := []
  nv := 1
  nd := padNd
  ok := by kernel_rfl
def buckNd : Nd := .ext (.alloc 1) (.and (.imp (.lt (.var 0) (.lit 64)) (.post [.dead] (.sv (.one (.int .i64 (.lit 64)))))) (.imp (.not (.lt (.var 0) (.lit 64))) (.and (.imp (.lt (.var 0) (.lit 128)) (.post [.dead] (.sv (.one (.int .i64 (.lit 128)))))) (.imp (.not (.lt (.var 0) (.lit 128))) (.and (.imp (.lt (.var 0) (.lit 256)) (.post [.dead] (.sv (.one (.int .i64 (.lit 256)))))) (.imp (.not (.lt (.var 0) (.lit 256))) (.and (.imp (.lt (.var 0) (.lit 512)) (.post [.dead] (.sv (.one (.int .i64 (.lit 512)))))) (.imp (.not (.lt (.var 0) (.lit 512))) (.and (.imp (.lt (.var 0) (.lit 1024)) (.post [.dead] (.sv (.one (.int .i64 (.lit 1024)))))) (.imp (.not (.lt (.var 0) (.lit 1024))) (.and (.imp (.lt (.var 0) (.lit 2048)) (.post [.dead] (.sv (.one (.int .i64 (.lit 2048)))))) (.imp (.not (.lt (.var 0) (.lit 2048))) (.post [.dead] (.sv (.one (.int .i64 (.lit 0)))))))))))))))))
def buckW : Walk Try.prog [] 42 where
  Λ := noLoops
  args := (cpSVs 0 [.one i64]).map .sv
  mem := []
  nv := 1
  nd := buckNd
  ok := by kernel_rfl
theorem wrap_pred {z : Int} (h : i64in z) : IntKind.i64.wrap (z - 1) = z - 1 ∨ IntKind.i64.wrap (z - 1) = 9223372036854775807 ∧ z = -9223372036854775808 := by
  unfold i64in at h
  by_cases h1 : z = -9223372036854775808
  · right
    subst h1
    exact ⟨by decide, rfl⟩
  · left
    exact IntWalk.i64_in _ (by omega)
theorem boolV {b : Bool} {p : Prop} {_ : Decidable p} (h : b = true ↔ p) : Value.bool b = .bool (decide p) := by
  congr 1
  rw [Bool.eq_iff_iff, decide_eq_true_eq]; exact h
theorem padS_ok : padS.OK Try.prog := by
  refine pure_of (Γ := []) (fun t ht => by cases ht) padW rfl rfl rfl (fun q _ _ => shape_bool _) (fun q hq hN => ⟨fun _ _ => True, fun _ _ => 0, ?_⟩)
  have hN : i64in (q.i 0) := hN
  have eG : padG (inVs [.one i64] q) = .bool (decide (isPad (q.i 0))) := rfl
  simp only [eG]
  show Nd.holds _ _ _ padNd
  unfold padNd
  simp only [Nd.holds, X.pre, X.rel, X.n, Src.ok, Src.len, Src.vals, true_and, and_true, if_true, Nat.mul_one, Nat.add_zero, Nat.reduceAdd, List.length_cons, List.length_nil, bT_tt, bT_ff, bT_bvar, bT_not, bT_and, bT_or, bT_ite, bT_lt, bT_le, bT_eq, bT_beq, bT_seq, bT_hB, bT_his, bT_hby, bT_hism, bT_hks, iev_lit, iev_var, iev_add, iev_sub, iev_mul, iev_wrap, iev_ite, iev_hI, iev_hP, iev_hmlen, sev_ite, sev_slit, sev_sof, sev_svar, TV.ev, SV.ev, CV.ev, List.map_cons, List.map_nil, Res.hl, cpTV, Cp.sv, Ck.cv, cpSVs, Cp.len, Ck.len, newHs_zero, newHs_one, roots_ne, bev_tt, bev_ff]
  have hw := wrap_pred hN
  generalize IntKind.i64.wrap (q.i 0 - 1) = y at hw ⊢
  have lf : ∀ {m : Int}, (m = q.i 0 ↔ isPad (q.i 0)) → Value.bool (bev q (.eq (.lit m) (.var 0))) = .bool (decide (isPad (q.i 0))) := fun {m} h => boolV (by rw [bT_eq, iev_lit, iev_var]; exact h)
  have ff : ¬ isPad (q.i 0) → Value.bool false = .bool (decide (isPad (q.i 0))) := fun h => boolV ⟨fun e => (by cases e), fun e => absurd e h⟩
  unfold isPad at lf ff ⊢
  exact ⟨fun h => ff (by omega), fun h0 => ⟨fun h => lf (by omega), fun h1 => ⟨fun h => lf (by omega), fun h2 => ⟨fun h => lf (by omega), fun h3 => ⟨fun h => lf (by omega), fun h4 => ⟨fun h => lf (by omega), fun h5 => ⟨fun h => lf (by omega), fun h6 => ff (by omega)⟩⟩⟩⟩⟩⟩⟩
theorem buckS_ok : buckS.OK Try.prog := by
  refine pure_of (Γ := []) (fun t ht => by cases ht) buckW rfl rfl rfl (fun q _ _ => shape_int _) (fun q hq hN => ⟨fun _ _ => True, fun _ _ => 0, ?_⟩)
  have eG : buckG (inVs [.one i64] q) = .int .i64 (buck (q.i 0)) := rfl
  simp only [eG]
  show Nd.holds _ _ _ buckNd
  unfold buckNd
  simp only [Nd.holds, X.pre, X.rel, X.n, Src.ok, Src.len, Src.vals, true_and, and_true, if_true, Nat.mul_one, Nat.add_zero, Nat.reduceAdd, List.length_cons, List.length_nil, bT_tt, bT_ff, bT_bvar, bT_not, bT_and, bT_or, bT_ite, bT_lt, bT_le, bT_eq, bT_beq, bT_seq, bT_hB, bT_his, bT_hby, bT_hism, bT_hks, iev_lit, iev_var, iev_add, iev_sub, iev_mul, iev_wrap, iev_ite, iev_hI, iev_hP, iev_hmlen, sev_ite, sev_slit, sev_sof, sev_svar, TV.ev, SV.ev, CV.ev, List.map_cons, List.map_nil, Res.hl, cpTV, Cp.sv, Ck.cv, cpSVs, Cp.len, Ck.len, newHs_zero, newHs_one, roots_ne]
  intro q1 g1 _
  rw [g1.i 0 (by omega)]
  unfold buck
  exact ⟨fun h => by rw [if_pos h], fun h0 => ⟨fun h => by rw [if_neg h0, if_pos h], fun h1 => ⟨fun h => by rw [if_neg h0, if_neg h1, if_pos h], fun h2 => ⟨fun h => by rw [if_neg h0, if_neg h1, if_neg h2, if_pos h], fun h3 => ⟨fun h => by rw [if_neg h0, if_neg h1, if_neg h2, if_neg h3, if_pos h], fun h4 => ⟨fun h => by rw [if_neg h0, if_neg h1, if_neg h2, if_neg h3, if_neg h4, if_pos h], fun h5 => by rw [if_neg h0, if_neg h1, if_neg h2, if_neg h3, if_neg h4, if_neg h5]⟩⟩⟩⟩⟩⟩
/-! ### Placed -/
/-- Noughts, some from one on. -/
def zer (f : Nat → Int) : Nat → Nat → Prop
  | _, 0 => True
  | n, 1 => f n = 0
  | n, k + 2 => f n = 0 ∧ zer f (n + 1) (k + 1)
theorem zer_iff {f : Nat → Int} : ∀ (k n : Nat), zer f n k ↔ ∀ j, j < k → f (n + j) = 0
  | 0, n => ⟨fun _ j h => (by omega), fun _ => trivial⟩
  | 1, n => ⟨fun h j hj => (by cases j with
      | zero => exact h
      | succ j => omega), fun h => h 0 (by omega)⟩
  | k + 2, n => by
    show (f n = 0 ∧ zer f (n + 1) (k + 1)) ↔ _
    rw [zer_iff (k + 1) (n + 1)]
    constructor
    · rintro ⟨h0, h⟩ j hj
      cases j with
      | zero => exact h0
      | succ j => have := h j (by omega); rwa [show n + 1 + j = n + (j + 1) by omega] at this
    · exact fun h => ⟨h 0 (by omega), fun j hj => by have := h (j + 1) (by omega); rwa [show n + (j + 1) = n + 1 + j by omega] at this⟩
instance zerDec (f : Nat → Int) : ∀ (k n : Nat), Decidable (zer f n k)
  | 0, _ => isTrue trivial
  | 1, n => (inferInstance : Decidable (f n = 0))
  | k + 2, n => have := zerDec f (k + 1) (n + 1); (inferInstance : Decidable (f n = 0 ∧ zer f (n + 1) (k + 1)))
def placedP (l : List Value) : Prop := (1 ≤ cI l 0 ∧ cI l 0 ≤ 6) ∧ (1 ≤ cI l 1 ∧ cI l 1 ≤ 1048576) ∧ (0 ≤ cI l 34 ∧ cI l 34 ≤ 255) ∧ cI l 36 ≤ 1099511627776 ∧ cI l (54 + (cI l 0 - 1).toNat) = cI l 1 - 1 ∧ (cI l 54 ≤ 1048576 ∧ cI l 55 ≤ 1048576 ∧ cI l 56 ≤ 1048576 ∧ cI l 57 ≤ 1048576 ∧ cI l 58 ≤ 1048576 ∧ cI l 59 ≤ 1048576) ∧ (1 < cI l 1 ∨ zer (cI l) 2 32)
instance (l : List Value) : Decidable (placedP l) := by unfold placedP; exact inferInstance
def rowV (v : Value) : List Value := match v with
  | .agg a => a.toList
  | _ => []
def placedG (xs : List Value) : Value := .bool (decide (placedP (rowV (xs.getD 0 (.bool false)))))
def placedS : Sx.Spec := pureS 45 [.agg hk2] [.one .bool] (fun _ => True) placedG
def placedNd : Nd := .ext (.alloc 128) (.and (.imp (.lt (.var 0) (.lit 1)) (.post [.dead] (.sv (.one (.bool .ff))))) (.imp (.not (.lt (.var 0) (.lit 1))) (.and (.imp (.lt (.lit 6) (.var 0)) (.post [.dead] (.sv (.one (.bool .ff))))) (.imp (.not (.lt (.lit 6) (.var 0))) (.and (.imp (.lt (.var 1) (.lit 1)) (.post [.dead] (.sv (.one (.bool .ff))))) (.imp (.not (.lt (.var 1) (.lit 1))) (.and (.imp (.lt (.lit 1048576) (.var 1)) (.post [.dead] (.sv (.one (.bool .ff))))) (.imp (.not (.lt (.lit 1048576) (.var 1))) (.and (.imp (.lt (.var 34) (.lit 0)) (.post [.dead] (.sv (.one (.bool .ff))))) (.imp (.not (.lt (.var 34) (.lit 0))) (.and (.imp (.lt (.lit 255) (.var 34)) (.post [.dead] (.sv (.one (.bool .ff))))) (.imp (.not (.lt (.lit 255) (.var 34))) (.and (.imp (.lt (.lit 1099511627776) (.var 36)) (.post [.dead] (.sv (.one (.bool .ff))))) (.imp (.not (.lt (.lit 1099511627776) (.var 36))) (.and (.e (.le (.lit 0) (.wrap .i64 (.sub (.var 0) (.lit 1))))) (.and (.e (.lt (.wrap .i64 (.sub (.var 0) (.lit 1))) (.lit 6))) (.and (.imp (.not (.eq (.ite (.eq (.wrap .i64 (.sub (.var 0) (.lit 1))) (.lit 0)) (.var 57) (.ite (.eq (.wrap .i64 (.sub (.var 0) (.lit 1))) (.lit 1)) (.var 58) (.ite (.eq (.wrap .i64 (.sub (.var 0) (.lit 1))) (.lit 2)) (.var 59) (.ite (.eq (.wrap .i64 (.sub (.var 0) (.lit 1))) (.lit 3)) (.var 60) (.ite (.eq (.wrap .i64 (.sub (.var 0) (.lit 1))) (.lit 4)) (.var 61) (.var 62)))))) (.wrap .u64 (.sub (.var 1) (.lit 1))))) (.post [.dead] (.sv (.one (.bool .ff))))) (.imp (.eq (.ite (.eq (.wrap .i64 (.sub (.var 0) (.lit 1))) (.lit 0)) (.var 57) (.ite (.eq (.wrap .i64 (.sub (.var 0) (.lit 1))) (.lit 1)) (.var 58) (.ite (.eq (.wrap .i64 (.sub (.var 0) (.lit 1))) (.lit 2)) (.var 59) (.ite (.eq (.wrap .i64 (.sub (.var 0) (.lit 1))) (.lit 3)) (.var 60) (.ite (.eq (.wrap .i64 (.sub (.var 0) (.lit 1))) (.lit 4)) (.var 61) (.var 62)))))) (.wrap .u64 (.sub (.var 1) (.lit 1)))) (.and (.imp (.lt (.lit 1048576) (.var 57)) (.post [.dead] (.sv (.one (.bool .ff))))) (.imp (.not (.lt (.lit 1048576) (.var 57))) (.and (.imp (.lt (.lit 1048576) (.var 58)) (.post [.dead] (.sv (.one (.bool .ff))))) (.imp (.not (.lt (.lit 1048576) (.var 58))) (.and (.imp (.lt (.lit 1048576) (.var 59)) (.post [.dead] (.sv (.one (.bool .ff))))) (.imp (.not (.lt (.lit 1048576) (.var 59))) (.and (.imp (.lt (.lit 1048576) (.var 60)) (.post [.dead] (.sv (.one (.bool .ff))))) (.imp (.not (.lt (.lit 1048576) (.var 60))) (.and (.imp (.lt (.lit 1048576) (.var 61)) (.post [.dead] (.sv (.one (.bool .ff))))) (.imp (.not (.lt (.lit 1048576) (.var 61))) (.and (.imp (.lt (.lit 1048576) (.var 62)) (.post [.dead] (.sv (.one (.bool .ff))))) (.imp (.not (.lt (.lit 1048576) (.var 62))) (.and (.imp (.not (.lt (.lit 1) (.var 1))) (.post [.dead] (.sv (.one (.bool (.and (.eq (.var 2) (.lit 0)) (.and (.eq (.var 3) (.lit 0)) (.and (.eq (.var 4) (.lit 0)) (.and (.eq (.var 5) (.lit 0)) (.and (.eq (.var 6) (.lit 0)) (.and (.eq (.var 7) (.lit 0)) (.and (.eq (.var 8) (.lit 0)) (.and (.eq (.var 9) (.lit 0)) (.and (.eq (.var 10) (.lit 0)) (.and (.eq (.var 11) (.lit 0)) (.and (.eq (.var 12) (.lit 0)) (.and (.eq (.var 13) (.lit 0)) (.and (.eq (.var 14) (.lit 0)) (.and (.eq (.var 15) (.lit 0)) (.and (.eq (.var 16) (.lit 0)) (.and (.eq (.var 17) (.lit 0)) (.and (.eq (.var 18) (.lit 0)) (.and (.eq (.var 19) (.lit 0)) (.and (.eq (.var 20) (.lit 0)) (.and (.eq (.var 21) (.lit 0)) (.and (.eq (.var 22) (.lit 0)) (.and (.eq (.var 23) (.lit 0)) (.and (.eq (.var 24) (.lit 0)) (.and (.eq (.var 25) (.lit 0)) (.and (.eq (.var 26) (.lit 0)) (.and (.eq (.var 27) (.lit 0)) (.and (.eq (.var 28) (.lit 0)) (.and (.eq (.var 29) (.lit 0)) (.and (.eq (.var 30) (.lit 0)) (.and (.eq (.var 31) (.lit 0)) (.and (.eq (.var 32) (.lit 0)) (.eq (.var 33) (.lit 0)))))))))))))))))))))))))))))))))))))) (.imp (.lt (.lit 1) (.var 1)) (.post [.dead] (.sv (.one (.bool .tt))))))))))))))))))))))))))))))))))))
def placedW : Walk Try.prog [] 45 where
  Λ := noLoops
  args := (cpSVs 0 [.agg hk2]).map .sv
  mem := []
  nv := 128
  nd := placedNd
  ok := by kernel_rfl
def hrow (q : Env) (n : Nat) : List Value := (ckCVs n hk2).map (CV.ev q)
theorem know_ite (q : Env) (h : 1 ≤ q.i 0 ∧ q.i 0 ≤ 6) : cI (hrow q 0) (54 + (q.i 0 - 1).toNat) = if q.i 0 - 1 = 0 then q.i 57 else if q.i 0 - 1 = 1 then q.i 58 else if q.i 0 - 1 = 2 then q.i 59 else if q.i 0 - 1 = 3 then q.i 60 else if q.i 0 - 1 = 4 then q.i 61 else q.i 62 := by
  have : q.i 0 = 1 ∨ q.i 0 = 2 ∨ q.i 0 = 3 ∨ q.i 0 = 4 ∨ q.i 0 = 5 ∨ q.i 0 = 6 := by omega
  rcases this with e | e | e | e | e | e <;> rw [e] <;> rfl
theorem hrow_ag {q q1 : Env} (g : Agree 128 q q1) : hrow q1 0 = hrow q 0 := by
  have h := ev_ag (n := 0) (ks := hk2) g (Nat.le_of_ble_eq_true (by kernel_rfl))
  exact List.toArray_inj (Value.agg.inj h)
theorem placedS_ok : placedS.OK Try.prog := by
  refine pure_of (Γ := []) (fun t ht => by cases ht) placedW rfl rfl rfl (fun q _ _ => shape_bool _) (fun q hq hN => ⟨fun _ _ => True, fun _ _ => 0, ?_⟩)
  have eG : placedG (inVs [.agg hk2] q) = .bool (decide (placedP (hrow q 0))) := rfl
  simp only [eG]
  show Nd.holds _ _ _ placedNd
  unfold placedNd
  simp only [Nd.holds, X.pre, X.rel, X.n, Src.ok, Src.len, Src.vals, true_and, and_true, if_true, Nat.mul_one, Nat.add_zero, Nat.reduceAdd, List.length_cons, List.length_nil, bT_tt, bT_ff, bT_bvar, bT_not, bT_and, bT_or, bT_ite, bT_lt, bT_le, bT_eq, bT_beq, bT_seq, bT_hB, bT_his, bT_hby, bT_hism, bT_hks, iev_lit, iev_var, iev_add, iev_sub, iev_mul, iev_wrap, iev_ite, iev_hI, iev_hP, iev_hmlen, sev_ite, sev_slit, sev_sof, sev_svar, TV.ev, SV.ev, CV.ev, List.map_cons, List.map_nil, Res.hl, cpTV, Cp.sv, Ck.cv, cpSVs, Cp.len, Ck.len, newHs_zero, newHs_one, roots_ne, bev_tt, bev_ff]
  intro q1 g1 _
  rw [← hrow_ag g1]
  clear g1
  have eP : placedP (hrow q1 0) ↔ ((1 ≤ q1.i 0 ∧ q1.i 0 ≤ 6) ∧ (1 ≤ q1.i 1 ∧ q1.i 1 ≤ 1048576) ∧ (0 ≤ q1.i 34 ∧ q1.i 34 ≤ 255) ∧ q1.i 36 ≤ 1099511627776 ∧ cI (hrow q1 0) (54 + (q1.i 0 - 1).toNat) = q1.i 1 - 1 ∧ (q1.i 57 ≤ 1048576 ∧ q1.i 58 ≤ 1048576 ∧ q1.i 59 ≤ 1048576 ∧ q1.i 60 ≤ 1048576 ∧ q1.i 61 ≤ 1048576 ∧ q1.i 62 ≤ 1048576) ∧ (1 < q1.i 1 ∨ zer (cI (hrow q1 0)) 2 32)) := Iff.rfl
  have eK := know_ite q1
  have eZ : bev q1 (.and (.eq (.var 2) (.lit 0)) (.and (.eq (.var 3) (.lit 0)) (.and (.eq (.var 4) (.lit 0)) (.and (.eq (.var 5) (.lit 0)) (.and (.eq (.var 6) (.lit 0)) (.and (.eq (.var 7) (.lit 0)) (.and (.eq (.var 8) (.lit 0)) (.and (.eq (.var 9) (.lit 0)) (.and (.eq (.var 10) (.lit 0)) (.and (.eq (.var 11) (.lit 0)) (.and (.eq (.var 12) (.lit 0)) (.and (.eq (.var 13) (.lit 0)) (.and (.eq (.var 14) (.lit 0)) (.and (.eq (.var 15) (.lit 0)) (.and (.eq (.var 16) (.lit 0)) (.and (.eq (.var 17) (.lit 0)) (.and (.eq (.var 18) (.lit 0)) (.and (.eq (.var 19) (.lit 0)) (.and (.eq (.var 20) (.lit 0)) (.and (.eq (.var 21) (.lit 0)) (.and (.eq (.var 22) (.lit 0)) (.and (.eq (.var 23) (.lit 0)) (.and (.eq (.var 24) (.lit 0)) (.and (.eq (.var 25) (.lit 0)) (.and (.eq (.var 26) (.lit 0)) (.and (.eq (.var 27) (.lit 0)) (.and (.eq (.var 28) (.lit 0)) (.and (.eq (.var 29) (.lit 0)) (.and (.eq (.var 30) (.lit 0)) (.and (.eq (.var 31) (.lit 0)) (.and (.eq (.var 32) (.lit 0)) (.eq (.var 33) (.lit 0))))))))))))))))))))))))))))))))) = true ↔ zer (cI (hrow q1 0)) 2 32 := by
    simp only [bT_and, bT_eq, iev_var, iev_lit]
    exact Iff.rfl
  have ff : ¬ placedP (hrow q1 0) → Value.bool false = .bool (decide (placedP (hrow q1 0))) := fun h => boolV ⟨fun e => (by cases e), fun e => absurd e h⟩
  have tt : placedP (hrow q1 0) → Value.bool true = .bool (decide (placedP (hrow q1 0))) := fun h => boolV ⟨fun _ => h, fun _ => rfl⟩
  have zz : (zer (cI (hrow q1 0)) 2 32 ↔ placedP (hrow q1 0)) → Value.bool (bev q1 (.and (.eq (.var 2) (.lit 0)) (.and (.eq (.var 3) (.lit 0)) (.and (.eq (.var 4) (.lit 0)) (.and (.eq (.var 5) (.lit 0)) (.and (.eq (.var 6) (.lit 0)) (.and (.eq (.var 7) (.lit 0)) (.and (.eq (.var 8) (.lit 0)) (.and (.eq (.var 9) (.lit 0)) (.and (.eq (.var 10) (.lit 0)) (.and (.eq (.var 11) (.lit 0)) (.and (.eq (.var 12) (.lit 0)) (.and (.eq (.var 13) (.lit 0)) (.and (.eq (.var 14) (.lit 0)) (.and (.eq (.var 15) (.lit 0)) (.and (.eq (.var 16) (.lit 0)) (.and (.eq (.var 17) (.lit 0)) (.and (.eq (.var 18) (.lit 0)) (.and (.eq (.var 19) (.lit 0)) (.and (.eq (.var 20) (.lit 0)) (.and (.eq (.var 21) (.lit 0)) (.and (.eq (.var 22) (.lit 0)) (.and (.eq (.var 23) (.lit 0)) (.and (.eq (.var 24) (.lit 0)) (.and (.eq (.var 25) (.lit 0)) (.and (.eq (.var 26) (.lit 0)) (.and (.eq (.var 27) (.lit 0)) (.and (.eq (.var 28) (.lit 0)) (.and (.eq (.var 29) (.lit 0)) (.and (.eq (.var 30) (.lit 0)) (.and (.eq (.var 31) (.lit 0)) (.and (.eq (.var 32) (.lit 0)) (.eq (.var 33) (.lit 0)))))))))))))))))))))))))))))))))) = .bool (decide (placedP (hrow q1 0))) := fun h => boolV (eZ.trans h)
  generalize Value.bool (decide (placedP (hrow q1 0))) = V at ff tt zz ⊢
  rw [eP] at ff tt zz
  clear eP eZ
  refine ⟨fun h => ff (by omega), fun h0 => ⟨fun h => ff (by omega), fun h1 => ?_⟩⟩
  have eK := eK (by omega)
  have w0 : IntKind.i64.wrap (q1.i 0 - 1) = q1.i 0 - 1 := IntWalk.i64_in _ (by omega)
  rw [w0]
  rw [← eK]
  generalize cI (hrow q1 0) (54 + (q1.i 0 - 1).toNat) = K at ff tt zz ⊢
  generalize zer (cI (hrow q1 0)) 2 32 = Z at ff tt zz
  refine ⟨fun h => ff (by omega), fun h2 => ⟨fun h => ff (by omega), fun h3 => ?_⟩⟩
  have w1 : IntKind.u64.wrap (q1.i 1 - 1) = q1.i 1 - 1 := wu64 (by omega) (by omega)
  rw [w1]
  refine ⟨fun h => ff (by omega), fun h4 => ⟨fun h => ff (by omega), fun h5 => ⟨fun h => ff (by omega), fun h6 => ⟨by omega, by omega, fun h => ff (by omega), fun h7 => ?_⟩⟩⟩⟩
  refine ⟨fun h => ff (by omega), fun k0 => ⟨fun h => ff (by omega), fun k1 => ⟨fun h => ff (by omega), fun k2 => ⟨fun h => ff (by omega), fun k3 => ⟨fun h => ff (by omega), fun k4 => ⟨fun h => ff (by omega), fun k5 => ⟨fun h => zz ⟨fun z => ?_, fun z => ?_⟩, fun h => tt ?_⟩⟩⟩⟩⟩⟩⟩
  · exact ⟨by omega, by omega, by omega, by omega, h7, by omega, Or.inr z⟩
  · rcases z.2.2.2.2.2.2 with z | z
    · omega
    · exact z
  · exact ⟨by omega, by omega, by omega, by omega, h7, by omega, Or.inl h⟩
end Go.Proofs.Ytkdllpialpfopaa
