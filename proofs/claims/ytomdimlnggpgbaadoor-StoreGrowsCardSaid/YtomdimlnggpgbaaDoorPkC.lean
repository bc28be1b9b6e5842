/- Layer 5: what is taken out of a text: the number that stands there, Clone, as contracts. Condition: bytes below 256. -/
import Derived.Test.YtomdimlnggpgbaaDoorPkB
import Derived.Test.YtomdimlnggpgbaaDoorRows
import Derived.Test.YtomdimlnggpgbaaDoorSxF
set_option linter.unusedSimpArgs false
set_option linter.unusedVariables false
set_option linter.constructorNameAsVariable false
namespace Go.Proofs.YtomdimlnggpgbaaDoor
open Go Go.Sx Go.Pk

def lp0 (p : List Nat) : Bool := decide (p.length > 1) && !(p.head? == some 99)
def noLoops : Loops := fun _ => none
theorem newHs_zero (q : Env) (n : Nat) : newHs q n 0 = [] := rfl
theorem newHs_one (q : Env) (n : Nat) : newHs q n 1 = [q.h n] := by unfold newHs; rw [List.range_one]; rfl
theorem roots_ne {α : Type} {a : α} {l : List α} : (a :: l ≠ []) = True := by simp
theorem ptr0 (a : Nat) : Value.pointer (slP (a : Int) 0) = .pointer (some ⟨a, 0, none⟩) := by rw [slP_pos (by omega)]; rfl
def bytes256 (bs : List Int) : Prop := ∀ b ∈ bs, 0 ≤ b ∧ b < 256
theorem seg_of {R : Hl} {x y l : Int} {bs : List Int} (hl : l = bs.length) (hy : 0 ≤ y) (h : bs = [] ∨ 0 ≤ x ∧ ∀ j z, bs[j]? = some z → R.cell x.toNat (y.toNat + j) = some (.int .u8 z)) :
    ((0 ≤ x ∧ 0 ≤ y ∧ 0 ≤ l ∧ ∀ j, j < l.toNat → ∃ v, R.cell x.toNat (y.toNat + j) = some v ∧ v.oneCell' = true) ∨ l = 0) ∧ segVals R x.toNat y.toNat l.toNat = bys bs := by
  subst hl
  rw [Int.toNat_natCast]
  constructor
  · rcases h with h | ⟨hx, h⟩
    · subst h; exact Or.inr rfl
    · exact Or.inl ⟨hx, hy, by omega, fun j hj => ⟨_, h j _ (List.getElem?_eq_getElem hj), rfl⟩⟩
  · unfold segVals
    apply List.ext_getElem?
    intro j
    rw [List.getElem?_map, bys_get]
    rcases Nat.lt_or_ge j bs.length with hj | hj
    · rcases h with h | ⟨hx, h⟩
      · subst h; cases hj
      · rw [List.getElem?_range hj, Option.map_some, h j _ (List.getElem?_eq_getElem hj), List.getElem?_eq_getElem hj]
        rfl
    · rw [List.getElem?_eq_none (by simpa using hj), List.getElem?_eq_none (by omega)]; rfl
theorem own0 (F : Hl) {a : Int} (h : 0 ≤ a) (hF : F = Hl.one a.toNat (.cells #[] 5 (0, 0))) : OwnsH F 5 1 (.slice (slP a 0) (Int.toNat 0) (Int.toNat 0)) (Int.toNat 0) [] := by
  subst hF
  exact ⟨rfl, Or.inr ⟨a.toNat, 0, #[], by rw [slP_pos h]; rfl, Hl.one_self _ _, by omega, by decide, rfl, rfl⟩⟩
/-! ### Clone of bytes -/
def cloneBS : Sx.Spec where
  fn := 71
  own := []
  rd := [0]
  res := [.one .sl]
  pre := fun xs Hs Rs => ∃ u bs R, xs = [u] ∧ Rs = [R] ∧ RdW R u bs ∧ bs.length ≤ 1000000
  post := fun xs Hs Rs v Hs' F => ∃ u bs R, xs = [u] ∧ Rs = [R] ∧ RdW R u bs ∧ OwB F 5 v bs
def cloneBNd : Nd := .and (.imp (.eq (.var 0) (.lit (-1))) (.post [.ro 4 [.var 0] false] (.sv (.one (.sl (.lit (-1)) (.lit 0) (.lit 0) (.lit 0)))))) (.imp (.not (.eq (.var 0) (.lit (-1)))) (.ext (.alloc 5) (.and (.pre (.app 6 5 1 1 (.sl (.var 5) (.lit 0) (.lit 0) (.lit 0)) (.lit 0) (.blk 5 [] 5) (.seg 4 (.var 0) (.var 1) (.var 2)))) (.ext (.app 6 5 1 1 (.sl (.var 5) (.lit 0) (.lit 0) (.lit 0)) (.lit 0) (.blk 5 [] 5) (.seg 4 (.var 0) (.var 1) (.var 2))) (.post [.ro 4 [.var 0] false, .hp 6 [] [.var 6, .var 5] []] (.sv (.one (.sl (.var 6) (.lit 0) (.var 2) (.var 7)))))))))
def cloneBW : Walk Tryd.prog [] cloneBS.fn where
  Λ := noLoops
  args := [.sv (.one (.sl (.var 0) (.var 1) (.var 2) (.var 3)))]
  mem := [.ro 4 [.var 0] false]
  nv := 5
  nd := cloneBNd
  ok := by kernel_rfl
theorem cloneBS_ok : cloneBS.OK Tryd.prog := by
  refine Spec.of_fn (Γ := []) (fun _ h => by cases h) ?_
  rintro xs Hs Rs hl1 hl2 ⟨u, bs, R, rfl, rfl, hRd, hlen⟩
  have e0 : Hs = [] := List.length_eq_zero_iff.1 hl1
  subst e0
  obtain ⟨x, y, c, rfl, hy, hR⟩ := id hRd
  refine ⟨cloneBW, envI [x, y, bs.length, c] false [Hl.none, Hl.none, Hl.none, Hl.none, R], fun _ _ => True, fun _ _ => 0, ?_, ⟨?_, ?_, ?_, ?_⟩, (fun _ h => nomatch h), ?_⟩
  · show [Value.slice (slP x y) ((bs.length : Int)).toNat ((c : Int)).toNat] = _
    rw [Int.toNat_natCast, Int.toNat_natCast]
  · intro r hr ho; simp [cloneBW] at hr; subst hr; cases ho
  · intro r hr ho; simp [cloneBW] at hr; subst hr; exact ⟨R, by simp, Hl.le_refl _⟩
  · simp [cloneBW]
  · intro r hr; simp [cloneBW] at hr; subst hr; trivial
  · show Nd.holds _ _ _ cloneBNd
    generalize hρ : envI [x, y, bs.length, c] false [Hl.none, Hl.none, Hl.none, Hl.none, R] = ρ
    have v0 : ρ.i 0 = x := by rw [← hρ]; rfl
    have v1 : ρ.i 1 = y := by rw [← hρ]; rfl
    have v2 : ρ.i 2 = bs.length := by rw [← hρ]; rfl
    have w4 : ρ.h 4 = R := by rw [← hρ]; rfl
    clear hρ
    unfold cloneBNd
    simp only [Nd.holds, X.pre, X.rel, X.n, Src.ok, Src.len, Src.vals, true_and, and_true, if_true, Nat.mul_one, Nat.add_zero, Nat.reduceAdd, List.length_cons, List.length_nil, bT_tt, bT_ff, bT_bvar, bT_not, bT_and, bT_or, bT_ite, bT_lt, bT_le, bT_eq, bT_beq, bT_seq, bT_hB, bT_his, bT_hby, bT_hism, bT_hks, iev_lit, iev_var, iev_add, iev_sub, iev_mul, iev_wrap, iev_ite, iev_hI, iev_hP, iev_hmlen, sev_ite, sev_slit, sev_sof, sev_svar, TV.ev, SV.ev, CV.ev, List.map_cons, List.map_nil, Res.hl]
    refine ⟨fun hx _ => ?_, fun hx q1 g1 p5 => ?_⟩
    · have hnil : bs = [] := by
        rcases hR with h | ⟨h, _⟩
        · exact h
        · omega
      refine ⟨[], [], rfl, rfl, ⟨⟨fun k => if k = 0 then -1 else 0, fun _ => false, fun _ => .empty, fun _ => .tuple #[], fun _ => Hl.none⟩, rfl, ⟨Int.le_refl _, Int.le_refl _, Int.le_refl _, Int.le_refl _⟩, trivial⟩, _, bs, R, rfl, rfl, hRd, ?_⟩
      rw [hnil]
      exact ⟨rfl, Or.inl ⟨rfl, rfl⟩⟩
    · obtain ⟨hok, hseg⟩ := seg_of (R := R) (x := x) (y := y) (l := (bs.length : Int)) rfl hy hR
      have ho0 := own0 (Hl.one (q1.i 5).toNat (.cells #[] 5 (0, 0))) p5 rfl
      rw [g1.i 0 (by omega), g1.i 1 (by omega), g1.i 2 (by omega), g1.h 4 (by omega), v0, v1, v2, w4]
      refine ⟨⟨⟨_, ho0⟩, Int.le_refl _, by simpa using hok, by rw [Int.toNat_natCast]; unfold maxLen; simp; omega, by rw [Int.toNat_natCast]; simp; omega⟩, fun q2 g2 ⟨a1, a2, a3, _⟩ => fun _ => ?_⟩
      have hx2 := a3 _ ho0
      rw [hseg, List.nil_append] at hx2
      refine ⟨[], [1], rfl, rfl, ⟨⟨fun k => [q2.i 6, 0, q2.i 2, q2.i 7].getD k 0, fun _ => false, fun _ => .empty, fun _ => .tuple #[], fun _ => Hl.none⟩, rfl, ⟨a1, Int.le_refl _, ?_, a2⟩, trivial⟩, _, bs, R, rfl, rfl, hRd, ?_⟩
      · show 0 ≤ q2.i 2
        rw [g2.i 2 (by omega), g1.i 2 (by omega), v2]; omega
      · show OwB (hls [q2.h 6]) _ (.slice (slP (q2.i 6) 0) (q2.i 2).toNat (q2.i 7).toNat) bs
        rw [hls_one, g2.i 2 (by omega), g1.i 2 (by omega), v2]
        unfold OwB
        rw [Int.toNat_natCast]
        simpa using hx2
/-! ### The number that stands somewhere -/
def numR (bs : List Int) : Nat × Nat := (numAt bs).getD (0, 0)
/-- A block of a text that is taken from, and its bytes, each to be read. -/
def InRd (R1 R2 : Hl) (p : Value) (bs : List Int) (bad : Bool) : Prop := ∃ (a : Nat) (x y : Int) (c : Nat), p = .pointer (some ⟨a, 0, none⟩) ∧ R1.cell a 0 = some (.slice (slP x y) bs.length c) ∧ R1.cell a 1 = some (.bool bad) ∧ -1 ≤ x ∧ 0 ≤ y ∧ RdB R2 (.slice (slP x y) bs.length c) bs
theorem InRd.uniq {R1 R2 : Hl} {p : Value} {a b : List Int} {x y : Bool} (h : InRd R1 R2 p a x) (h' : InRd R1 R2 p b y) : a = b ∧ x = y := by
  obtain ⟨a1, x1, y1, c1, e1, h1, h2, _, _, h3⟩ := h
  obtain ⟨a2, x2, y2, c2, e2, k1, k2, _, _, k3⟩ := h'
  rw [e1] at e2
  simp only [Value.pointer.injEq, Option.some.injEq, Addr.mk.injEq, and_true] at e2
  subst e2
  rw [h1] at k1
  have k1 := Option.some.inj k1
  rw [← k1] at k3
  rw [h2] at k2
  simp only [Option.some.injEq, Value.bool.injEq] at k2
  exact ⟨h3.uniq k3, k2⟩
def numberS : Sx.Spec where
  fn := 87
  own := []
  rd := [0, 1000]
  res := [.one (.int .u64), .one (.int .i64)]
  pre := fun xs Hs Rs => ∃ p R1 R2 bs bad, xs = [p] ∧ Rs = [R1, R2] ∧ InRd R1 R2 p bs bad ∧ bytes256 bs ∧ bs.length ≤ 1000000
  post := fun xs Hs Rs v Hs' F => ∃ p R1 R2 bs bad, xs = [p] ∧ Rs = [R1, R2] ∧ InRd R1 R2 p bs bad ∧ v = .tuple #[.int .u64 (numR bs).1, .int .i64 (numR bs).2]
def numberNd : Nd := .and (.e (.le (.lit 0) (.var 0))) (.and (.e (.his 2 (.var 0) (.lit 0) 0 .slice)) (.and (.e (.le (.lit 0) (.hP 2 (.var 0) (.lit 0) 0 2))) (.and (.inv 0 [⟨10, 0, .int .i64 (.lit 0)⟩, ⟨11, 0, .int .i64 (.lit 0)⟩] []) (.havoc 0 0 3 (.and (.imp (.lt (.var 11) (.hP 2 (.var 0) (.lit 0) 0 2)) (.and (.e (.le (.lit 0) (.hP 2 (.var 0) (.lit 0) 0 0))) (.and (.e (.le (.lit 0) (.hP 2 (.var 0) (.lit 0) 0 1))) (.and (.e (.le (.lit 0) (.var 11))) (.and (.e (.his 1 (.hP 2 (.var 0) (.lit 0) 0 0) (.add (.hP 2 (.var 0) (.lit 0) 0 1) (.var 11)) 0 (.int .u8))) (.and (.imp (.eq (.var 11) (.lit 9)) (.and (.imp (.not (.lt (.lit 1) (.hI 1 (.hP 2 (.var 0) (.lit 0) 0 0) (.add (.hP 2 (.var 0) (.lit 0) 0 1) (.var 11)) 0))) (.and (.e (.le (.lit 0) (.wrap .i64 (.mul (.lit 7) (.var 11))))) (.and (.imp (.eq (.hI 1 (.hP 2 (.var 0) (.lit 0) 0 0) (.add (.hP 2 (.var 0) (.lit 0) 0 1) (.var 11)) 0) (.lit 0)) (.post [.ro 1 [.hP 2 (.var 0) (.lit 0) 0 0] false, .ro 2 [.var 0] false] (.tup [.one (.int .u64 (.lit 0)), .one (.int .i64 (.lit 0))]))) (.imp (.not (.eq (.hI 1 (.hP 2 (.var 0) (.lit 0) 0 0) (.add (.hP 2 (.var 0) (.lit 0) 0 1) (.var 11)) 0) (.lit 0))) (.post [.ro 1 [.hP 2 (.var 0) (.lit 0) 0 0] false, .ro 2 [.var 0] false] (.tup [.one (.int .u64 (.bits .or .u64 (.var 10) (.shl .u64 (.wrap .u64 (.bits .and .u8 (.hI 1 (.hP 2 (.var 0) (.lit 0) 0 0) (.add (.hP 2 (.var 0) (.lit 0) 0 1) (.var 11)) 0) (.lit 127))) (.wrap .i64 (.mul (.lit 7) (.var 11)))))), .one (.int .i64 (.wrap .i64 (.add (.var 11) (.lit 1))))])))))) (.imp (.lt (.lit 1) (.hI 1 (.hP 2 (.var 0) (.lit 0) 0 0) (.add (.hP 2 (.var 0) (.lit 0) 0 1) (.var 11)) 0)) (.post [.ro 1 [.hP 2 (.var 0) (.lit 0) 0 0] false, .ro 2 [.var 0] false] (.tup [.one (.int .u64 (.lit 0)), .one (.int .i64 (.lit 0))]))))) (.imp (.not (.eq (.var 11) (.lit 9))) (.and (.imp (.lt (.lit 9) (.var 11)) (.post [.ro 1 [.hP 2 (.var 0) (.lit 0) 0 0] false, .ro 2 [.var 0] false] (.tup [.one (.int .u64 (.lit 0)), .one (.int .i64 (.lit 0))]))) (.imp (.not (.lt (.lit 9) (.var 11))) (.and (.e (.le (.lit 0) (.wrap .i64 (.mul (.lit 7) (.var 11))))) (.and (.imp (.lt (.hI 1 (.hP 2 (.var 0) (.lit 0) 0 0) (.add (.hP 2 (.var 0) (.lit 0) 0 1) (.var 11)) 0) (.lit 128)) (.and (.imp (.eq (.hI 1 (.hP 2 (.var 0) (.lit 0) 0 0) (.add (.hP 2 (.var 0) (.lit 0) 0 1) (.var 11)) 0) (.lit 0)) (.and (.imp (.lt (.lit 0) (.var 11)) (.post [.ro 1 [.hP 2 (.var 0) (.lit 0) 0 0] false, .ro 2 [.var 0] false] (.tup [.one (.int .u64 (.lit 0)), .one (.int .i64 (.lit 0))]))) (.imp (.not (.lt (.lit 0) (.var 11))) (.post [.ro 1 [.hP 2 (.var 0) (.lit 0) 0 0] false, .ro 2 [.var 0] false] (.tup [.one (.int .u64 (.bits .or .u64 (.var 10) (.shl .u64 (.wrap .u64 (.bits .and .u8 (.hI 1 (.hP 2 (.var 0) (.lit 0) 0 0) (.add (.hP 2 (.var 0) (.lit 0) 0 1) (.var 11)) 0) (.lit 127))) (.wrap .i64 (.mul (.lit 7) (.var 11)))))), .one (.int .i64 (.wrap .i64 (.add (.var 11) (.lit 1))))]))))) (.imp (.not (.eq (.hI 1 (.hP 2 (.var 0) (.lit 0) 0 0) (.add (.hP 2 (.var 0) (.lit 0) 0 1) (.var 11)) 0) (.lit 0))) (.post [.ro 1 [.hP 2 (.var 0) (.lit 0) 0 0] false, .ro 2 [.var 0] false] (.tup [.one (.int .u64 (.bits .or .u64 (.var 10) (.shl .u64 (.wrap .u64 (.bits .and .u8 (.hI 1 (.hP 2 (.var 0) (.lit 0) 0 0) (.add (.hP 2 (.var 0) (.lit 0) 0 1) (.var 11)) 0) (.lit 127))) (.wrap .i64 (.mul (.lit 7) (.var 11)))))), .one (.int .i64 (.wrap .i64 (.add (.var 11) (.lit 1))))]))))) (.imp (.not (.lt (.hI 1 (.hP 2 (.var 0) (.lit 0) 0 0) (.add (.hP 2 (.var 0) (.lit 0) 0 1) (.var 11)) 0) (.lit 128))) (.back 0 0 [⟨10, 0, .int .i64 (.bits .or .u64 (.var 10) (.shl .u64 (.wrap .u64 (.bits .and .u8 (.hI 1 (.hP 2 (.var 0) (.lit 0) 0 0) (.add (.hP 2 (.var 0) (.lit 0) 0 1) (.var 11)) 0) (.lit 127))) (.wrap .i64 (.mul (.lit 7) (.var 11)))))⟩, ⟨11, 0, .int .i64 (.wrap .i64 (.add (.var 11) (.lit 1)))⟩] []))))))))))))) (.imp (.not (.lt (.var 11) (.hP 2 (.var 0) (.lit 0) 0 2))) (.post [.ro 1 [.hP 2 (.var 0) (.lit 0) 0 0] false, .ro 2 [.var 0] false] (.tup [.one (.int .u64 (.lit 0)), .one (.int .i64 (.lit 0))]))))))))
def numberW : Walk Tryd.prog [] numberS.fn where
  Λ := fun p => if lp0 p then some ⟨0, [(4, TI .u64 (.var 10)), (12, TI .i64 (.var 11))], [], 12⟩ else none
  args := [TP (.var 0) (.lit 0)]
  mem := [.ro 1 [.hP 2 (.var 0) (.lit 0) 0 0] false, .ro 2 [.var 0] false]
  nv := 3
  nd := numberNd
  ok := by kernel_rfl
def numberInv (bs : List Int) (_ : Nat) (q : Env) : Prop := ∃ k y : Nat, q.i 11 = k ∧ q.i 10 = y ∧ k ≤ 10 ∧ y < 128 ^ k ∧ numAt bs = numGo (bs.drop k) k y
theorem sl0 {x y : Int} (hx : -1 ≤ x) (n c : Nat) : valP (some (.slice (slP x y) n c)) 0 = x := by
  rcases Int.lt_or_le x 0 with h | h
  · obtain rfl : x = -1 := by omega
    rfl
  · rw [slP_pos h]; show ((x.toNat : Nat) : Int) = x; omega
theorem sl1 {x y : Int} (hx : 0 ≤ x) (hy : 0 ≤ y) (n c : Nat) : valP (some (.slice (slP x y) n c)) 1 = y := by
  rw [slP_pos hx]; show ((y.toNat : Nat) : Int) = y; omega
theorem sl2 {x y : Int} (hx : -1 ≤ x) (n c : Nat) : valP (some (.slice (slP x y) n c)) 2 = n := by
  rcases Int.lt_or_le x 0 with h | h
  · obtain rfl : x = -1 := by omega
    rfl
  · rw [slP_pos h]; rfl
theorem numGo_step {bs : List Int} {k y c : Nat} (hc : bs[k]? = some (c : Int)) : numGo (bs.drop k) k y = if (k = 9 ∧ 1 < c) ∨ 9 < k then none else if c < 128 then (if c = 0 ∧ 0 < k then none else some (y + c * 128 ^ k, k + 1)) else numGo (bs.drop (k + 1)) (k + 1) (y + (c % 128) * 128 ^ k) := by
  have hk := (List.getElem?_eq_some_iff.1 hc).1
  have e : bs.drop k = (c : Int) :: bs.drop (k + 1) := by
    rw [List.drop_eq_getElem_cons hk, (List.getElem?_eq_some_iff.1 hc).2]
  rw [e]
  show (if (k = 9 ∧ 1 < (c : Int)) ∨ 9 < k then none else if (c : Int) < 128 then (if (c : Int) = 0 ∧ 0 < k then none else some (y + ((c : Int)).toNat * 128 ^ k, k + 1)) else numGo (bs.drop (k + 1)) (k + 1) (y + (((c : Int)).toNat % 128) * 128 ^ k)) = _
  rw [Int.toNat_natCast]
  have h1 : ((1 : Int) < (c : Int)) ↔ 1 < c := by omega
  have h2 : ((c : Int) < 128) ↔ c < 128 := by omega
  have h3 : ((c : Int) = 0) ↔ c = 0 := by omega
  simp only [h1, h2, h3]
theorem numberS_ok : numberS.OK Tryd.prog := by
  refine Spec.of_fn (Γ := []) (fun _ h => by cases h) ?_
  rintro xs Hs Rs hl1 hl2 ⟨p, R1, R2, bs, bad, rfl, rfl, hIn, hby, hlen⟩
  have e0 : Hs = [] := List.length_eq_zero_iff.1 hl1
  subst e0
  obtain ⟨a, x, y, c, rfl, hc0, hc1, hx, hy, hR⟩ := id hIn
  refine ⟨numberW, envI [(a : Int)] false [Hl.none, R2, R1], numberInv bs, fun _ q => ((bs.length : Int) - q.i 11).toNat, ?_, ⟨?_, ?_, ?_, ?_⟩, (fun _ h => nomatch h), ?_⟩
  · show [Value.pointer (slP (a : Int) 0)] = _
    rw [ptr0]
  · intro r hr ho; simp [numberW] at hr; rcases hr with rfl | rfl <;> cases ho
  · intro r hr ho; simp [numberW] at hr
    rcases hr with rfl | rfl
    · exact ⟨R2, by simp, Hl.le_refl _⟩
    · exact ⟨R1, by simp, Hl.le_refl _⟩
  · simp [numberW, Res.own]
  · intro r hr; simp [numberW] at hr; rcases hr with rfl | rfl <;> trivial
  · show Nd.holds _ _ _ numberNd
    generalize hρ : envI [(a : Int)] false [Hl.none, R2, R1] = ρ
    have v0 : ρ.i 0 = a := by rw [← hρ]; rfl
    have w1 : ρ.h 1 = R2 := by rw [← hρ]; rfl
    have w2 : ρ.h 2 = R1 := by rw [← hρ]; rfl
    clear hρ
    have out : ∀ (q : Env) (mem : Mem) (e1 e2 : E), iev q e1 = (numR bs).1 → iev q e2 = (numR bs).2 → postOf numberS [.pointer (some ⟨a, 0, none⟩)] [] [R1, R2] q mem (.tup [.one (.int .u64 e1), .one (.int .i64 e2)]) := fun q mem e1 e2 h1 h2 _ =>
      ⟨[], [], rfl, rfl, ⟨⟨fun k => if k = 0 then (numR bs).1 else (numR bs).2, fun _ => false, fun _ => .empty, fun _ => .tuple #[], fun _ => Hl.none⟩, by show Value.tuple #[.int .u64 (iev q e1), .int .i64 (iev q e2)] = _; rw [h1, h2]; rfl, trivial, trivial, trivial⟩, _, R1, R2, bs, bad, rfl, rfl, hIn, by show Value.tuple #[.int .u64 (iev q e1), .int .i64 (iev q e2)] = _; rw [h1, h2]⟩
    have none0 : ∀ (q : Env) (mem : Mem), numAt bs = none → postOf numberS [.pointer (some ⟨a, 0, none⟩)] [] [R1, R2] q mem (.tup [.one (.int .u64 (.lit 0)), .one (.int .i64 (.lit 0))]) := fun q mem h => out q mem _ _ (by unfold numR; rw [h]; rfl) (by unfold numR; rw [h]; rfl)
    have tn0 : Int.toNat 0 = 0 := rfl
    unfold numberNd
    simp only [Nd.holds, X.pre, X.rel, X.n, Src.ok, Src.len, Src.vals, true_and, and_true, if_true, Nat.mul_one, Nat.add_zero, Nat.reduceAdd, List.length_cons, List.length_nil, bT_tt, bT_ff, bT_bvar, bT_not, bT_and, bT_or, bT_ite, bT_lt, bT_le, bT_eq, bT_beq, bT_seq, bT_hB, bT_his, bT_hby, bT_hism, bT_hks, iev_lit, iev_var, iev_add, iev_sub, iev_mul, iev_wrap, iev_ite, iev_hI, iev_hP, iev_hmlen, sev_ite, sev_slit, sev_sof, sev_svar, TV.ev, SV.ev, CV.ev, List.map_cons, List.map_nil, Res.hl, tn0]
    rw [v0, w2, Int.toNat_natCast, hc0, sl2 hx]
    refine ⟨by omega, rfl, by omega, ⟨0, 0, rfl, rfl, by omega, by decide, rfl⟩, fun q g ⟨k, y', e11, e10, hk, hyk, hnum⟩ => ?_⟩
    rw [g.i 0 (by omega), v0, g.h 2 (by omega), w2, g.h 1 (by omega), w1, Int.toNat_natCast, hc0, sl2 hx, e11]
    refine ⟨fun hlt => ?_, fun hge => none0 q _ (by rw [hnum, List.drop_eq_nil_of_le (by omega)]; rfl)⟩
    obtain ⟨z, hz⟩ : ∃ z, bs[k]? = some z := ⟨_, List.getElem?_eq_getElem (by omega)⟩
    have hzr := hby z (List.mem_of_getElem? hz)
    obtain ⟨cz, rfl⟩ : ∃ cz : Nat, z = cz := ⟨z.toNat, by omega⟩
    obtain ⟨hx0, hcells⟩ : 0 ≤ x ∧ ∀ j z, bs[j]? = some z → R2.cell x.toNat (y.toNat + j) = some (.int .u8 z) := by
      obtain ⟨x', y', c', he, hy', h⟩ := hR
      simp only [Value.slice.injEq] at he
      obtain ⟨hp, _, _⟩ := he
      rcases h with ⟨_, h⟩ | ⟨h0, h⟩
      · rw [h] at hz; simp at hz
      · obtain ⟨e1, e2⟩ := slP_inj hx hy (by omega) hy' hp
        have e2 := e2 (by omega)
        subst e1 e2
        exact ⟨h0, h⟩
    have hcell : R2.cell x.toNat (y + (k : Int)).toNat = some (.int .u8 cz) := by
      rw [← hcells k _ hz]; congr 1; omega
    rw [sl0 hx, sl1 hx0 hy, hcell]
    have hst := numGo_step (y := y') hz
    rw [← hnum] at hst
    have ev : valI (some (Value.int .u8 (cz : Int))) = cz := rfl
    rw [ev]
    have rest : ∀ q' : Env, q' = q → k ≤ 9 → (k = 9 → cz ≤ 1) → iev q' (.bits .or .u64 (.var 10) (.shl .u64 (.wrap .u64 (.bits .and .u8 (.hI 1 (.hP 2 (.var 0) (.lit 0) 0 0) (.add (.hP 2 (.var 0) (.lit 0) 0 1) (.var 11)) 0) (.lit 127))) (.wrap .i64 (.mul (.lit 7) (.var 11))))) = ((y' + cz % 128 * 128 ^ k : Nat) : Int) := by
      rintro q' rfl h9 hc9
      have hn := (next7 hyk h9 (by omega) hc9).1
      rw [iev_bits, iev_shl, iev_wrap, iev_wrap, iev_bits, iev_hI, iev_hP, iev_add, iev_hP, iev_mul]
      simp only [iev_var, iev_lit]
      rw [g.i 0 (by omega), v0, g.h 2 (by omega), w2, g.h 1 (by omega), w1, Int.toNat_natCast, tn0, Nat.add_zero, hc0, sl0 hx, sl1 hx0 hy, Nat.add_zero, e11, hcell, e10]
      exact hn
    have hw : 0 ≤ IntKind.i64.wrap (7 * (k : Int)) := by rw [wrap_i64 (by omega) (by omega)]; omega
    have m11 : IntKind.i64.wrap (q.i 11 + 1) = k + 1 := by rw [e11, wrap_i64 (by omega) (by omega)]
    have fin : ∀ mem, numAt bs = some (y' + cz * 128 ^ k, k + 1) → cz < 128 → k ≤ 9 → (k = 9 → cz ≤ 1) → postOf numberS [.pointer (some ⟨a, 0, none⟩)] [] [R1, R2] q mem (.tup [.one (.int .u64 (.bits .or .u64 (.var 10) (.shl .u64 (.wrap .u64 (.bits .and .u8 (.hI 1 (.hP 2 (.var 0) (.lit 0) 0 0) (.add (.hP 2 (.var 0) (.lit 0) 0 1) (.var 11)) 0) (.lit 127))) (.wrap .i64 (.mul (.lit 7) (.var 11)))))), .one (.int .i64 (.wrap .i64 (.add (.var 11) (.lit 1))))]) := by
      intro mem hn h128 h9 hc9
      refine out q mem _ _ ?_ ?_
      · rw [rest q rfl h9 hc9, Nat.mod_eq_of_lt h128]; unfold numR; rw [hn]; rfl
      · show IntKind.i64.wrap (q.i 11 + 1) = _
        rw [m11]; unfold numR; rw [hn]; rfl
    refine ⟨hx0, hy, by omega, rfl, fun h9 => ⟨fun h1 => ⟨hw, fun h0 => none0 q _ ?_, fun h0 => fin _ ?_ (by omega) (by omega) (by omega)⟩, fun h1 => none0 q _ ?_⟩, fun h9 => ⟨fun hg9 => none0 q _ ?_, fun hg9 => ⟨hw, fun h128 => ⟨fun h0 => ⟨fun hk0 => none0 q _ ?_, fun hk0 => fin _ ?_ (by omega) (by omega) (by omega)⟩, fun h0 => fin _ ?_ (by omega) (by omega) (by omega)⟩, fun h128 => ⟨⟨k + 1, y' + cz % 128 * 128 ^ k, ?_, ?_, by omega, ?_, ?_⟩, ?_⟩⟩⟩⟩
    · rw [hst, if_neg (by omega), if_pos (by omega), if_pos (by omega)]
    · rw [hst, if_neg (by omega), if_pos (by omega), if_neg (by omega)]
    · rw [hst, if_pos (by omega)]
    · rw [hst, if_pos (by omega)]
    · rw [hst, if_neg (by omega), if_pos (by omega), if_pos (by omega)]
    · rw [hst, if_neg (by omega), if_pos (by omega), if_neg (by omega)]
    · rw [hst, if_neg (by omega), if_pos (by omega), if_neg (by omega)]
    · show IntKind.i64.wrap (q.i 11 + 1) = _
      rw [m11]; omega
    · show iev q _ = _
      exact rest q rfl (by omega) (by omega)
    · rw [Nat.pow_succ, Nat.mul_comm (128 ^ k) 128]
      have : cz % 128 * 128 ^ k ≤ 127 * 128 ^ k := Nat.mul_le_mul_right _ (by omega)
      omega
    · rw [hst, if_neg (by omega), if_neg (by omega)]
    · show ((bs.length : Int) - IntKind.i64.wrap (q.i 11 + 1)).toNat < _
      rw [m11]; omega
theorem number_post {p v : Value} {R1 R2 F : Hl} {Hs K : List Hl} {bs : List Int} {bad : Bool} (h : InRd R1 R2 p bs bad) (hp : numberS.post [p] Hs [R1, R2] v K F) : v = .tuple #[.int .u64 (numR bs).1, .int .i64 (numR bs).2] := by
  obtain ⟨p', S1, S2, bs', bad', hx, hR, hIn, hv⟩ := hp
  have hx : p = p' := by simpa using hx
  have hR : R1 = S1 ∧ R2 = S2 := by simpa using hR
  obtain ⟨e1, e2⟩ := hR
  subst hx e1 e2
  rw [(h.uniq hIn).1]; exact hv
end Go.Proofs.YtomdimlnggpgbaaDoor
