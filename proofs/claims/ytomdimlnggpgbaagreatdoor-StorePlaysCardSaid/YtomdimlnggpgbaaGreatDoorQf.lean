/- Layer 9: a store's Generation, told by its block and its log; renew, as contracts. Condition: serials and generation below what is spent. -/
import Derived.Shelf.SlIterI.Nil
import Derived.Shelf.SortM.Plain
import Derived.Shelf.SortM.SortNone
import Derived.Ground.GgzProg
import Derived.Ground.SlgmProg
import Derived.Shelf.SlGeneric
import Derived.Test.YtomdimlnggpgbaaGreatDoorRows
import Derived.Test.YtomdimlnggpgbaaGreatDoorQe
set_option linter.unusedSimpArgs false
set_option linter.unusedVariables false
set_option linter.constructorNameAsVariable false
namespace Go.Proofs.YtomdimlnggpgbaaGreatDoor
open Go Go.Sx Go.Pk
open Go.Proofs.YtomdimlnggpgbaaGreatDoor.D hiding envI noLoops numS
def zEnv : Env := ⟨fun _ => 0, fun _ => false, fun _ => .empty, fun _ => .tuple #[], fun _ => Hl.none⟩
theorem ent_ro {ρ : Env} {mem : Mem} {Hs Rs : List Hl} (h1 : ∀ r ∈ mem, ∃ k t a, r = .ro k t a) (h2 : mem.map (Res.hl ρ) = Rs) : Entry ρ mem Hs Rs := by
  refine ⟨fun r hr ho => ?_, fun r hr _ => ⟨r.hl ρ, by rw [← h2]; exact List.mem_map.2 ⟨r, hr, rfl⟩, Hl.le_refl _⟩, ?_, fun r hr => ?_⟩
  · obtain ⟨k, t, a, rfl⟩ := h1 r hr; cases ho
  · refine List.pairwise_iff_getElem.2 fun i j hi hj _ ho => ?_
    obtain ⟨k, t, a, e⟩ := h1 mem[i] (List.getElem_mem hi)
    rw [e] at ho; cases ho
  · obtain ⟨k, t, a, rfl⟩ := h1 r hr; trivial
def sgenC : Sx.Spec where
  fn := 22
  own := []
  rd := [0, 5000000]
  res := [.one (.int .u64)]
  pre := fun xs Hs Rs => ∃ (a : Nat) (pa : Value) (R R1 : Hl) (dp : Value) (L : LM) (bs : List Int), xs = [.pointer (some ⟨a, 0, none⟩)] ∧ Rs = [R, R1] ∧ R.cell a 0 = some pa ∧ LogR R1 pa dp L bs
  post := fun xs Hs Rs v Hs' F => ∀ (a : Nat) (pa : Value) (R R1 : Hl) (dp : Value) (L : LM) (bs : List Int), xs = [.pointer (some ⟨a, 0, none⟩)] → Rs = [R, R1] → R.cell a 0 = some pa → LogR R1 pa dp L bs → v = .int .u64 (genI L)
def sgenCNd : Nd := .and (.e (.le (.lit 0) (.var 0))) (.and (.e (.his 2 (.var 0) (.lit 0) 0 .ptr)) (.and (.pre (.call 0 3 [.sv (.one (.hptr (.hP 2 (.var 0) (.lit 0) 0 0) (.hP 2 (.var 0) (.lit 0) 0 1)))] [] [.ro 1 [.hP 2 (.var 0) (.lit 0) 0 0] false])) (.ext (.call 0 3 [.sv (.one (.hptr (.hP 2 (.var 0) (.lit 0) 0 0) (.hP 2 (.var 0) (.lit 0) 0 1)))] [] [.ro 1 [.hP 2 (.var 0) (.lit 0) 0 0] false]) (.post [.ro 1 [.hP 2 (.var 0) (.lit 0) 0 0] false, .ro 2 [.var 0] false] (.sv (.one (.int .u64 (.var 3))))))))
def sgenCW : Walk Tryz.prog sgΓ sgenC.fn where
  Λ := noLoops
  args := [TP (.var 0) (.lit 0)]
  mem := [.ro 1 [.hP 2 (.var 0) (.lit 0) 0 0] false, .ro 2 [.var 0] false]
  nv := 3
  nd := sgenCNd
  ok := by kernel_rfl
theorem sgenC_ok : sgenC.OK Tryz.prog := by
  refine Spec.of_fn (Γ := sgΓ) sgΓ_ok ?_
  rintro xs Hs Rs hl1 hl2 ⟨a, pa, R, R1, dp, L, bs, rfl, rfl, hc, hL⟩
  have e0 : Hs = [] := List.length_eq_zero_iff.1 hl1
  subst e0
  obtain ⟨sla, ⟨aa, hpa, _⟩, _⟩ := id hL
  subst hpa
  refine ⟨sgenCW, envI [(a : Int)] false [Hl.none, R1, R], fun _ _ => True, fun _ _ => 0, ?_, ⟨?_, ?_, ?_, ?_⟩, (fun _ h => nomatch h), ?_⟩
  · show [Value.pointer (slP (a : Int) 0)] = _; rw [ptr0]
  · intro r hr ho; simp [sgenCW] at hr; rcases hr with rfl | rfl <;> cases ho
  · intro r hr ho; simp [sgenCW] at hr
    rcases hr with rfl | rfl
    · exact ⟨R1, by simp, Hl.le_refl _⟩
    · exact ⟨R, by simp, Hl.le_refl _⟩
  · simp [sgenCW, Res.own]
  · intro r hr; simp [sgenCW] at hr; rcases hr with rfl | rfl <;> trivial
  · show Nd.holds _ _ _ sgenCNd
    generalize hρ : envI [(a : Int)] false [Hl.none, R1, R] = ρ
    have v0 : ρ.i 0 = a := by rw [← hρ]; rfl
    have w1 : ρ.h 1 = R1 := by rw [← hρ]; rfl
    have w2 : ρ.h 2 = R := by rw [← hρ]; rfl
    clear hρ
    have t0 : Int.toNat 0 = 0 := rfl
    unfold sgenCNd
    simp only [Nd.holds, X.pre, X.rel, X.n, Src.ok, Src.len, Src.vals, true_and, and_true, if_true, Nat.mul_one, Nat.add_zero, Nat.reduceAdd, List.length_cons, List.length_nil, bT_tt, bT_ff, bT_bvar, bT_not, bT_and, bT_or, bT_ite, bT_lt, bT_le, bT_eq, bT_beq, bT_seq, bT_hB, bT_his, bT_hby, bT_hism, bT_hks, iev_lit, iev_var, iev_add, iev_sub, iev_mul, iev_wrap, iev_ite, iev_hI, iev_hP, iev_hmlen, sev_ite, sev_slit, sev_sof, sev_svar, TV.ev, SV.ev, CV.ev, List.map_cons, List.map_nil, Res.hl, cpTV, Cp.sv, Ck.cv, cpSVs, Cp.len, Ck.len, newHs_zero, newHs_one, roots_ne, sgg0, sor2, t0]
    rw [v0, w1, w2, Int.toNat_natCast, hc, ptr_parts]
    refine ⟨by omega, rfl, gen_pre hL, fun q1 g1 ⟨F1, hp1, _⟩ _ => ?_⟩
    have hv := gen_post hL hp1
    refine ⟨[], [], rfl, rfl, ⟨⟨fun _ => q1.i 3, fun _ => false, fun _ => .empty, fun _ => .tuple #[], fun _ => Hl.none⟩, rfl, trivial, trivial⟩, fun a' pa' R' R1' dp' L' bs' e1 e2 hc' hL' => ?_⟩
    simp only [List.cons.injEq, Value.pointer.injEq, Option.some.injEq, Addr.mk.injEq, and_true] at e1 e2
    obtain ⟨rfl, rfl⟩ := e2
    subst e1
    obtain rfl := Option.some.inj (hc.symm.trans hc')
    obtain ⟨_, rfl, _⟩ := hL.uniq hL'
    exact hv
def spentN : Int := 4611686018427387902
def nt8g (g : Int) : List Int := be8 (IntKind.u64.wrap (g + 1)) ++ List.replicate 8 0
def renewR (D : DM) (g : Int) (L : LM) (bs b : List Int) : AR :=
  if (clearR D L bs).e ≠ 0 then clearR D L bs else appendR (clearR D L bs).D (clearR D L bs).L (clearR D L bs).bs b (nt8g g)
noncomputable def renewS : Sx.Spec where
  fn := 56
  own := [.link 0 1, .far 0 1 0]
  rd := [0, 5000000, 1, 2000000]
  res := [.one .any]
  pre := fun xs Hs Rs => ∃ (a : Nat) (pa pb u : Value) (HB HD R0 RA RU RG : Hl) (g : Nat → Addr) (dp : Value) (LA : LM) (bA : List Int) (LB : LM) (bB : List Int) (D : DM) (b : List Int), xs = [.pointer (some ⟨a, 0, none⟩), u] ∧ Hs = [HB, HD] ∧ Rs = [R0, RA, RU, RG] ∧ R0.cell a 0 = some pa ∧ R0.cell a 1 = some pb ∧ LogR RA pa dp LA bA ∧ LogAt HB pb dp LB bB ∧ DiskAt HD dp D ∧ RdW RU u b ∧ Gl RG g ∧ 0 ≤ LB.serial ∧ LB.serial < spentN ∧ LA.serial < spentN ∧ genI LA < spentN ∧ bB.length ≤ 1048576
  post := fun xs Hs Rs v Hs' F => ∀ (a : Nat) (pa pb u : Value) (HB HD R0 RA RU RG : Hl) (g : Nat → Addr) (dp : Value) (LA : LM) (bA : List Int) (LB : LM) (bB : List Int) (D : DM) (b : List Int), xs = [.pointer (some ⟨a, 0, none⟩), u] → Hs = [HB, HD] → Rs = [R0, RA, RU, RG] → R0.cell a 0 = some pa → R0.cell a 1 = some pb → LogR RA pa dp LA bA → LogAt HB pb dp LB bB → DiskAt HD dp D → RdW RU u b → Gl RG g → ∃ HB' HD', Hs' = [HB', HD'] ∧ DiskAt HD' dp (renewR D (genI LA) LB bB b).D ∧ LogAt HB' pb dp (renewR D (genI LA) LB bB b).L (renewR D (genI LA) LB bB b).bs ∧ ErrAt g v (renewR D (genI LA) LB bB b).e
noncomputable def rnΓ : List Sx.Spec := [serialS, sgenC, clearS, appendS, wrappedS]
theorem rnΓ_ok : ∀ t ∈ rnΓ, t.OK Tryz.prog := fun t ht => by
  simp only [rnΓ, List.mem_cons, List.mem_nil_iff, or_false] at ht
  rcases ht with rfl | rfl | rfl | rfl | rfl
  · exact serialS_ok
  · exact sgenC_ok
  · exact clearS_ok
  · exact appendS_ok
  · exact wrappedS_ok
def renewNd : Nd := .and (.e (.le (.lit 0) (.var 0))) (.and (.e (.his 5 (.var 0) (.lit 1) 0 .ptr)) (.and (.pre (.call 0 12 [.sv (.one (.hptr (.hP 5 (.var 0) (.lit 1) 0 0) (.hP 5 (.var 0) (.lit 1) 0 1)))] [] [.hp 6 [] [.hP 5 (.var 0) (.lit 1) 0 0] [.var 10]])) (.ext (.call 0 12 [.sv (.one (.hptr (.hP 5 (.var 0) (.lit 1) 0 0) (.hP 5 (.var 0) (.lit 1) 0 1)))] [] [.hp 6 [] [.hP 5 (.var 0) (.lit 1) 0 0] [.var 10]]) (.and (.imp (.not (.le (.lit 4611686018427387902) (.var 12))) (.and (.e (.his 5 (.var 0) (.lit 0) 0 .ptr)) (.and (.pre (.call 0 13 [.sv (.one (.hptr (.hP 5 (.var 0) (.lit 0) 0 0) (.hP 5 (.var 0) (.lit 0) 0 1)))] [] [.ro 8 [.hP 5 (.var 0) (.lit 0) 0 0] false])) (.ext (.call 0 13 [.sv (.one (.hptr (.hP 5 (.var 0) (.lit 0) 0 0) (.hP 5 (.var 0) (.lit 0) 0 1)))] [] [.ro 8 [.hP 5 (.var 0) (.lit 0) 0 0] false]) (.and (.imp (.not (.le (.lit 4611686018427387902) (.var 13))) (.and (.pre (.call 1 14 [.sv (.one (.hptr (.var 0) (.lit 0)))] [] [.ro 5 [.var 0] false, .ro 8 [.hP 5 (.var 0) (.lit 0) 0 0] false])) (.ext (.call 1 14 [.sv (.one (.hptr (.var 0) (.lit 0)))] [] [.ro 5 [.var 0] false, .ro 8 [.hP 5 (.var 0) (.lit 0) 0 0] false]) (.and (.imp (.le (.lit 4611686018427387902) (.var 14)) (.e .ff)) (.imp (.not (.le (.lit 4611686018427387902) (.var 14))) (.and (.pre (.call 2 15 [.sv (.one (.hptr (.hP 5 (.var 0) (.lit 1) 0 0) (.hP 5 (.var 0) (.lit 1) 0 1)))] [.hp 6 [] [.hP 5 (.var 0) (.lit 1) 0 0] [.var 10], .hp 7 [] [.var 10] []] [])) (.ext (.call 2 15 [.sv (.one (.hptr (.hP 5 (.var 0) (.lit 1) 0 0) (.hP 5 (.var 0) (.lit 1) 0 1)))] [.hp 6 [] [.hP 5 (.var 0) (.lit 1) 0 0] [.var 10], .hp 7 [] [.var 10] []] []) (.and (.pre (.call 4 18 [.sv (.one (.str (.slit ⟨#[99, 108, 101, 97, 114]⟩))), .sv (.one (.int .i64 (.var 15)))] [] [.ro 11 [.lit 0, .lit 1, .lit 2] false])) (.ext (.call 4 18 [.sv (.one (.str (.slit ⟨#[99, 108, 101, 97, 114]⟩))), .sv (.one (.int .i64 (.var 15)))] [] [.ro 11 [.lit 0, .lit 1, .lit 2] false]) (.and (.e (.le (.vint 18) (.lit 1))) (.and (.imp (.not (.eq (.vint 18) (.lit 0))) (.post [.hp 15 [6] [.hP 5 (.var 0) (.lit 1) 0 0] [.var 10], .hp 16 [7] [.var 10] [], .ro 8 [.hP 5 (.var 0) (.lit 0) 0 0] false, .ro 5 [.var 0] false, .ro 9 [.var 1] false, .ro 11 [.lit 0, .lit 1, .lit 2] false] (.sv (.one (.vr 18))))) (.imp (.eq (.vint 18) (.lit 0)) (.ext (.alloc 19) (.and (.pre (.call 1 20 [.sv (.one (.hptr (.var 0) (.lit 0)))] [] [.ro 5 [.var 0] false, .ro 8 [.hP 5 (.var 0) (.lit 0) 0 0] false])) (.ext (.call 1 20 [.sv (.one (.hptr (.var 0) (.lit 0)))] [] [.ro 5 [.var 0] false, .ro 8 [.hP 5 (.var 0) (.lit 0) 0 0] false]) (.and (.pre (.call 3 21 [.sv (.one (.hptr (.hP 5 (.var 0) (.lit 1) 0 0) (.hP 5 (.var 0) (.lit 1) 0 1))), .sv (.one (.sl (.var 1) (.var 2) (.var 3) (.var 4))), .sv (.agg [.int .u8 (.wrap .u8 (.shr .u64 (.wrap .u64 (.add (.var 20) (.lit 1))) (.lit 56))), .int .u8 (.wrap .u8 (.shr .u64 (.wrap .u64 (.add (.var 20) (.lit 1))) (.lit 48))), .int .u8 (.wrap .u8 (.shr .u64 (.wrap .u64 (.add (.var 20) (.lit 1))) (.lit 40))), .int .u8 (.wrap .u8 (.shr .u64 (.wrap .u64 (.add (.var 20) (.lit 1))) (.lit 32))), .int .u8 (.wrap .u8 (.shr .u64 (.wrap .u64 (.add (.var 20) (.lit 1))) (.lit 24))), .int .u8 (.wrap .u8 (.shr .u64 (.wrap .u64 (.add (.var 20) (.lit 1))) (.lit 16))), .int .u8 (.wrap .u8 (.shr .u64 (.wrap .u64 (.add (.var 20) (.lit 1))) (.lit 8))), .int .u8 (.wrap .u8 (.shr .u64 (.wrap .u64 (.add (.var 20) (.lit 1))) (.lit 0))), .int .u8 (.lit 0), .int .u8 (.lit 0), .int .u8 (.lit 0), .int .u8 (.lit 0), .int .u8 (.lit 0), .int .u8 (.lit 0), .int .u8 (.lit 0), .int .u8 (.lit 0)])] [.hp 15 [6] [.hP 5 (.var 0) (.lit 1) 0 0] [.var 10], .hp 16 [7] [.var 10] []] [.ro 9 [.var 1] false])) (.ext (.call 3 21 [.sv (.one (.hptr (.hP 5 (.var 0) (.lit 1) 0 0) (.hP 5 (.var 0) (.lit 1) 0 1))), .sv (.one (.sl (.var 1) (.var 2) (.var 3) (.var 4))), .sv (.agg [.int .u8 (.wrap .u8 (.shr .u64 (.wrap .u64 (.add (.var 20) (.lit 1))) (.lit 56))), .int .u8 (.wrap .u8 (.shr .u64 (.wrap .u64 (.add (.var 20) (.lit 1))) (.lit 48))), .int .u8 (.wrap .u8 (.shr .u64 (.wrap .u64 (.add (.var 20) (.lit 1))) (.lit 40))), .int .u8 (.wrap .u8 (.shr .u64 (.wrap .u64 (.add (.var 20) (.lit 1))) (.lit 32))), .int .u8 (.wrap .u8 (.shr .u64 (.wrap .u64 (.add (.var 20) (.lit 1))) (.lit 24))), .int .u8 (.wrap .u8 (.shr .u64 (.wrap .u64 (.add (.var 20) (.lit 1))) (.lit 16))), .int .u8 (.wrap .u8 (.shr .u64 (.wrap .u64 (.add (.var 20) (.lit 1))) (.lit 8))), .int .u8 (.wrap .u8 (.shr .u64 (.wrap .u64 (.add (.var 20) (.lit 1))) (.lit 0))), .int .u8 (.lit 0), .int .u8 (.lit 0), .int .u8 (.lit 0), .int .u8 (.lit 0), .int .u8 (.lit 0), .int .u8 (.lit 0), .int .u8 (.lit 0), .int .u8 (.lit 0)])] [.hp 15 [6] [.hP 5 (.var 0) (.lit 1) 0 0] [.var 10], .hp 16 [7] [.var 10] []] [.ro 9 [.var 1] false]) (.and (.pre (.call 4 24 [.sv (.one (.str (.slit ⟨#[97, 112, 112, 101, 110, 100]⟩))), .sv (.one (.int .i64 (.var 21)))] [] [.ro 11 [.lit 0, .lit 1, .lit 2] false])) (.ext (.call 4 24 [.sv (.one (.str (.slit ⟨#[97, 112, 112, 101, 110, 100]⟩))), .sv (.one (.int .i64 (.var 21)))] [] [.ro 11 [.lit 0, .lit 1, .lit 2] false]) (.post [.hp 21 [15, 6] [.hP 5 (.var 0) (.lit 1) 0 0] [.var 10], .hp 22 [16, 7] [.var 10] [], .ro 8 [.hP 5 (.var 0) (.lit 0) 0 0] false, .ro 5 [.var 0] false, .ro 9 [.var 1] false, .ro 11 [.lit 0, .lit 1, .lit 2] false, .dead] (.sv (.one (.vr 24))))))))))))))))))))))) (.imp (.le (.lit 4611686018427387902) (.var 13)) (.e .ff))))))) (.imp (.le (.lit 4611686018427387902) (.var 12)) (.e .ff))))))
noncomputable def renewW : Walk Tryz.prog rnΓ renewS.fn where
  Λ := fun p => if deadAt p [56, 1, 0, 1, 0] then some ⟨0, [], [], 0⟩ else none
  args := [TP (.var 0) (.lit 0), .sv (.one (.sl (.var 1) (.var 2) (.var 3) (.var 4)))]
  mem := [.hp 6 [] [.hP 5 (.var 0) (.lit 1) 0 0] [.var 10], .hp 7 [] [.var 10] [], .ro 8 [.hP 5 (.var 0) (.lit 0) 0 0] false, .ro 5 [.var 0] false, .ro 9 [.var 1] false, .ro 11 [.lit 0, .lit 1, .lit 2] false]
  nv := 12
  nd := renewNd
  ok := by kernel_rfl
theorem rng0 : rnΓ[0]? = some serialS := rfl
theorem rng1 : rnΓ[1]? = some sgenC := rfl
theorem rng2 : rnΓ[2]? = some clearS := rfl
theorem rng3 : rnΓ[3]? = some appendS := rfl
theorem rng4 : rnΓ[4]? = some wrappedS := rfl
theorem rnr0 : serialS.res = [.one (.int .u64)] := rfl
theorem rnr1 : sgenC.res = [.one (.int .u64)] := rfl
theorem rnr2 : clearS.res = [.one (.int .i64)] := rfl
theorem serial_post {p dp sl v : Value} {R F : Hl} {K : List Hl} {L : LM} (h : LogRd R p dp sl L) (hp : serialS.post [p] [] [R] v K F) : v = .int .u64 L.serial := by
  obtain ⟨p', R', dp', sl', L', e1, e2, h', hv⟩ := hp
  have e1 : p = p' := by simpa using e1
  subst e1
  have e2 : R = R' := by simpa using e2
  subst e2
  obtain ⟨_, _, rfl⟩ := h.uniq h'
  exact hv
theorem clear_zero {D : DM} {L : LM} {bs : List Int} (e : (clearR D L bs).e = 0) : (clearR D L bs).bs = [] ∧ (clearR D L bs).L = grownL L [] L.note := by
  unfold clearR at e ⊢
  split at e
  · cases e
  · rename_i h1
    rw [if_neg h1]
    split at e
    · cases e
    · rename_i h2
      rw [if_neg h2]
      split at e
      · rename_i h3
        rw [if_pos h3]; exact ⟨rfl, rfl⟩
      · cases e
theorem note_ev {W : Int} (h : 0 ≤ W) (f : Int → Int) (hf : ∀ n, f n = IntKind.u8.wrap (iev ⟨fun _ => W, fun _ => false, fun _ => .empty, fun _ => .tuple #[], fun _ => Hl.none⟩ (.shr .u64 (.var 0) (.lit n)))) :
    [Value.int .u8 (f 56), .int .u8 (f 48), .int .u8 (f 40), .int .u8 (f 32), .int .u8 (f 24), .int .u8 (f 16), .int .u8 (f 8), .int .u8 (f 0), .int .u8 0, .int .u8 0, .int .u8 0, .int .u8 0, .int .u8 0, .int .u8 0, .int .u8 0, .int .u8 0] = bys (be8 W ++ List.replicate 8 0) := by
  have := be8_ev (q := ⟨fun _ => W, fun _ => false, fun _ => .empty, fun _ => .tuple #[], fun _ => Hl.none⟩) (n := 0) rfl h
  unfold bys
  rw [List.map_append, ← this]
  simp only [hf]
  rfl
theorem renewS_ok : renewS.OK Tryz.prog := by
  refine spec_of_fn2 (Γ := rnΓ) rnΓ_ok ?_
  rintro xs Hs Rs hl1 hl2 hdis ⟨a, pa, pb, u, HB, HD, R0, RA, RU, RG, g, dp, LA, bA, LB, bB, D, b, rfl, rfl, rfl, hc0, hc1, hA, hB, hD, hU, hG, hs0, hs1, hs2, hs3, hbB⟩
  obtain ⟨x, y, c, rfl, hy, _⟩ := id hU
  obtain ⟨_, ⟨aa, hpa, _⟩, _⟩ := id hA
  obtain ⟨ab, _, _, hpb, _⟩ := id hB
  have hHD : HB.dis HD := hdis 0 1 _ _ (by decide) rfl rfl
  generalize hρ : envI [(a : Int), x, y, b.length, c] false [Hl.none, Hl.none, Hl.none, Hl.none, Hl.none, R0, HB, HD, RA, RU, Hl.none, RG] = ρ
  have V : ∀ q : Env, Agree 12 ρ q → q.i 0 = a ∧ q.i 1 = x ∧ q.i 2 = y ∧ q.i 3 = b.length ∧ q.i 4 = c := fun q hg => by
    rw [hg.i 0 (by omega), hg.i 1 (by omega), hg.i 2 (by omega), hg.i 3 (by omega), hg.i 4 (by omega), ← hρ]
    exact ⟨rfl, rfl, rfl, rfl, rfl⟩
  have W : ∀ q : Env, Agree 12 ρ q → q.h 5 = R0 ∧ q.h 6 = HB ∧ q.h 7 = HD ∧ q.h 8 = RA ∧ q.h 9 = RU ∧ q.h 11 = RG := fun q hg => by
    rw [hg.h 5 (by omega), hg.h 6 (by omega), hg.h 7 (by omega), hg.h 8 (by omega), hg.h 9 (by omega), hg.h 11 (by omega), ← hρ]
    exact ⟨rfl, rfl, rfl, rfl, rfl, rfl⟩
  clear hρ
  obtain ⟨v0, v1, v2, v3, v4⟩ := V ρ (Agree.refl _ _)
  obtain ⟨w5, w6, w7, w8, w9, w11⟩ := W ρ (Agree.refl _ _)
  refine ⟨renewW, ρ, fun _ _ => True, fun _ _ => 0, ?_, ⟨?_, ?_, ?_, ?_⟩, (fun _ h => nomatch h), ?_⟩
  · show [Value.pointer (slP (ρ.i 0) 0), Value.slice (slP (ρ.i 1) (ρ.i 2)) (ρ.i 3).toNat (ρ.i 4).toNat] = _
    rw [v0, v1, v2, v3, v4, Int.toNat_natCast, Int.toNat_natCast, ptr0]
  · intro r hr ho
    simp only [renewW, List.mem_cons, List.mem_nil_iff, or_false] at hr
    rcases hr with rfl | rfl | rfl | rfl | rfl | rfl
    · exact ⟨HB, by simp, by show (ρ.h 6).le HB; rw [w6]; exact Hl.le_refl _⟩
    · exact ⟨HD, by simp, by show (ρ.h 7).le HD; rw [w7]; exact Hl.le_refl _⟩
    all_goals cases ho
  · intro r hr ho
    simp only [renewW, List.mem_cons, List.mem_nil_iff, or_false] at hr
    rcases hr with rfl | rfl | rfl | rfl | rfl | rfl
    · cases ho
    · cases ho
    · exact ⟨RA, by simp, by show (ρ.h 8).le RA; rw [w8]; exact Hl.le_refl _⟩
    · exact ⟨R0, by simp, by show (ρ.h 5).le R0; rw [w5]; exact Hl.le_refl _⟩
    · exact ⟨RU, by simp, by show (ρ.h 9).le RU; rw [w9]; exact Hl.le_refl _⟩
    · exact ⟨RG, by simp, by show (ρ.h 11).le RG; rw [w11]; exact Hl.le_refl _⟩
  · refine List.Pairwise.cons (fun r hr _ ho => ?_) (List.Pairwise.cons (fun r hr _ ho => ?_) (List.Pairwise.cons (fun r hr ho => by cases ho) (List.Pairwise.cons (fun r hr ho => by cases ho) (List.Pairwise.cons (fun r hr ho => by cases ho) (List.Pairwise.cons (fun r hr => by cases hr) List.Pairwise.nil)))))
    · simp only [List.mem_cons, List.mem_nil_iff, or_false] at hr
      rcases hr with rfl | rfl | rfl | rfl | rfl
      · show (ρ.h 6).dis (ρ.h 7); rw [w6, w7]; exact hHD
      all_goals cases ho
    · simp only [List.mem_cons, List.mem_nil_iff, or_false] at hr
      rcases hr with rfl | rfl | rfl | rfl <;> cases ho
  · intro r hr
    simp only [renewW, List.mem_cons, List.mem_nil_iff, or_false] at hr
    rcases hr with rfl | rfl | rfl | rfl | rfl | rfl <;> trivial
  show Nd.holds _ _ _ renewNd
  have t0 : Int.toNat 0 = 0 := rfl
  have t1 : Int.toNat 1 = 1 := rfl
  have epA : Value.pointer (slP (valP (some pa) 0) (valP (some pa) 1)) = pa := by rw [hpa]; exact ptr_parts
  have epB : Value.pointer (slP (valP (some pb) 0) (valP (some pb) 1)) = pb := by rw [hpb]; exact ptr_parts
  have kA : valIs (some pa) .ptr = true := by rw [hpa]; rfl
  have kB : valIs (some pb) .ptr = true := by rw [hpb]; rfl
  unfold renewNd
  simp only [Nd.holds, X.pre, X.rel, X.n, Src.ok, Src.len, Src.vals, true_and, and_true, if_true, Nat.mul_one, Nat.add_zero, Nat.reduceAdd, List.length_cons, List.length_nil, bT_tt, bT_ff, bT_bvar, bT_not, bT_and, bT_or, bT_ite, bT_lt, bT_le, bT_eq, bT_beq, bT_seq, bT_hB, bT_his, bT_hby, bT_hism, bT_hks, iev_lit, iev_var, iev_add, iev_sub, iev_mul, iev_wrap, iev_ite, iev_hI, iev_hP, iev_hmlen, sev_ite, sev_slit, sev_sof, sev_svar, TV.ev, SV.ev, CV.ev, List.map_cons, List.map_nil, Res.hl, cpTV, Cp.sv, Ck.cv, cpSVs, Cp.len, Ck.len, newHs_zero, newHs_one, roots_ne, rng0, rng1, rng2, rng3, rng4, rnr0, rnr1, rnr2, adr3, adr4, t0, t1]
  obtain ⟨slB, hBr, _⟩ := hB.rd
  obtain ⟨slA, hAr, _⟩ := id hA
  unfold spentN at hs1 hs2 hs3
  rw [w5, w6, v0, Int.toNat_natCast, hc1, epB]
  refine ⟨by omega, kB, ⟨_, _, _, _, _, rfl, rfl, hBr⟩, fun q1 g1 ⟨_, p1, _, _⟩ => ?_⟩
  have e12 : q1.i 12 = LB.serial := by simpa using serial_post hBr p1
  refine ⟨fun _ => ?_, fun h => by omega⟩
  rw [(V q1 g1).1, (W q1 g1).1, (W q1 g1).2.2.2.1, Int.toNat_natCast, hc0, epA]
  refine ⟨kA, ⟨_, _, _, _, _, rfl, rfl, hAr⟩, fun q2 g2 ⟨_, p2, _, _⟩ => ?_⟩
  have e13 : q2.i 13 = LA.serial := by simpa using serial_post hAr p2
  have G2 : Agree 12 ρ q2 := g1.trans (g2.mono (by omega))
  refine ⟨fun _ => ?_, fun h => by omega⟩
  rw [(V q2 G2).1, (W q2 G2).1, (W q2 G2).2.2.2.1, ptr0]
  refine ⟨⟨a, pa, R0, RA, dp, LA, bA, rfl, rfl, hc0, hA⟩, fun q3 g3 ⟨_, p3, _, _⟩ => ?_⟩
  have e14 : q3.i 14 = genI LA := by simpa using p3 a pa R0 RA dp LA bA rfl rfl hc0 hA
  have G3 : Agree 12 ρ q3 := G2.trans (g3.mono (by omega))
  refine ⟨fun h => by omega, fun _ => ?_⟩
  rw [(V q3 G3).1, (W q3 G3).1, (W q3 G3).2.1, (W q3 G3).2.2.1, Int.toNat_natCast, hc1, epB]
  refine ⟨⟨pb, HB, HD, dp, LB, bB, D, rfl, rfl, hB, hD, hs0⟩, fun q4 g4 ⟨_, p4, _, _⟩ => ?_⟩
  have G4 : Agree 12 ρ q4 := G3.trans (g4.mono (by omega))
  obtain ⟨HB', HD', hK, hD4, hB4, he⟩ := clear_post hB hD p4
  have hK : [q4.h 15, q4.h 16] = [HB', HD'] := hK
  simp only [List.cons.injEq, and_true] at hK
  obtain ⟨rfl, rfl⟩ := hK
  have e15 : q4.i 15 = (clearR D LB bB).e := by simpa using he
  rw [(W q4 G4).2.2.2.2.2]
  refine ⟨⟨_, _, RG, g, rfl, rfl, hG⟩, fun q5 g5 ⟨_, ⟨s', c', R', ex, eR, hE⟩, _, _⟩ => ?_⟩
  have G5 : Agree 12 ρ q5 := G4.trans (g5.mono (by omega))
  simp only [List.cons.injEq, Value.string.injEq, Value.int.injEq, true_and, and_true] at ex eR
  obtain ⟨_, rfl⟩ := ex
  subst eR
  rw [e15] at hE
  have hE : ∀ g', Gl RG g' → ErrAt g' (q5.v 18) (clearR D LB bB).e := hE
  obtain ⟨k1, k2⟩ := errCode (hE g hG)
  have fin : ∀ {q : Env} {h1 h2 j : Nat} {a1 a2 : List Nat} {t1 t2 l1 l2 : List E} {t : Mem}, DiskAt (q.h h2) dp (renewR D (genI LA) LB bB b).D → LogAt (q.h h1) pb dp (renewR D (genI LA) LB bB b).L (renewR D (genI LA) LB bB b).bs → (∀ g', Gl RG g' → ErrAt g' (q.v j) (renewR D (genI LA) LB bB b).e) →
      postOf renewS [.pointer (some ⟨a, 0, none⟩), .slice (slP x y) b.length c] [HB, HD] [R0, RA, RU, RG] q (.hp h1 a1 t1 l1 :: .hp h2 a2 t2 l2 :: t) (.sv (.one (.vr j))) := by
    intro q h1 h2 j a1 a2 t1 t2 l1 l2 t x1 x2 x3 _
    refine ⟨[[0], [1]], [], rfl, rfl, ⟨⟨fun _ => 0, fun _ => false, fun _ => .empty, fun _ => q.v j, fun _ => Hl.none⟩, rfl, trivial, trivial⟩, ?_⟩
    intro a' pa' pb' u' HB1 HD1 R0' RA' RU' RG' g' dp' LA' bA' LB' bB' D' b' e1 e2 e3 c0 c1 yA yB yD yU yG
    simp only [List.cons.injEq, Value.pointer.injEq, Option.some.injEq, Addr.mk.injEq, and_true] at e1 e2 e3
    obtain ⟨rfl, rfl⟩ := e1
    obtain ⟨rfl, rfl⟩ := e2
    obtain ⟨rfl, rfl, rfl, rfl⟩ := e3
    obtain rfl := Option.some.inj (hc0.symm.trans c0)
    obtain rfl := Option.some.inj (hc1.symm.trans c1)
    obtain ⟨rfl, rfl, rfl⟩ := hA.uniq yA
    obtain ⟨_, rfl, rfl⟩ := hB.uniq yB
    obtain rfl := hD.uniq yD
    obtain rfl := hU.uniq yU
    refine ⟨_, _, rfl, ?_, ?_, x3 g' yG⟩
    · show DiskAt (hls [q.h h2]) _ _
      rw [hls_one]; exact x1
    · show LogAt (hls [q.h h1]) _ _ _ _
      rw [hls_one]; exact x2
  refine ⟨k1, fun hne => ?_, fun h0 => ?_⟩
  · have hne : (clearR D LB bB).e ≠ 0 := fun h => hne (k2.2 h)
    have er : renewR D (genI LA) LB bB b = clearR D LB bB := by unfold renewR; rw [if_pos hne]
    refine fin ?_ ?_ ?_
    · rw [er, g5.h 16 (by omega)]; exact hD4
    · rw [er, g5.h 15 (by omega)]; exact hB4
    · rw [er]; exact hE
  have h0 : (clearR D LB bB).e = 0 := k2.1 h0
  have er : renewR D (genI LA) LB bB b = appendR (clearR D LB bB).D (clearR D LB bB).L (clearR D LB bB).bs b (nt8g (genI LA)) := by unfold renewR; rw [if_neg (by simp [h0])]
  intro q6 g6 _
  have G6 : Agree 12 ρ q6 := G5.trans (g6.mono (by omega))
  rw [(V q6 G6).1, (W q6 G6).1, (W q6 G6).2.2.2.1, ptr0]
  refine ⟨⟨a, pa, R0, RA, dp, LA, bA, rfl, rfl, hc0, hA⟩, fun q7 g7 ⟨_, p7, _, _⟩ => ?_⟩
  have e20 : q7.i 20 = genI LA := by simpa using p7 a pa R0 RA dp LA bA rfl rfl hc0 hA
  have G7 : Agree 12 ρ q7 := G6.trans (g7.mono (by omega))
  have A47 : Agree 18 q4 q7 := g5.trans ((g6.mono (by omega)).trans (g7.mono (by omega)))
  obtain ⟨z1, z2⟩ := clear_zero h0
  have hW : 0 ≤ IntKind.u64.wrap (genI LA + 1) := by unfold IntKind.wrap; simp only [IntKind.signed, IntKind.bits]; exact Int.emod_nonneg _ (by decide)
  have hnote := note_ev hW (fun n => IntKind.u8.wrap (iev q7 (E.shr .u64 (E.wrap .u64 ((E.var 20).add (E.lit 1))) (E.lit n)))) (fun n => by
    show IntKind.u8.wrap (iev q7 (E.shr .u64 (E.wrap .u64 ((E.var 20).add (E.lit 1))) (E.lit n))) = _
    rw [iev_shr, iev_shr, iev_wrap, iev_add, iev_var, e20]; rfl)
  have hnote : _ = Value.agg (bys (nt8g (genI LA))).toArray := congrArg (fun l => Value.agg (List.toArray l)) hnote
  have hsl : Value.slice (slP (q7.i 1) (q7.i 2)) (q7.i 3).toNat (q7.i 4).toNat = .slice (slP x y) b.length c := by rw [(V q7 G7).2.1, (V q7 G7).2.2.1, (V q7 G7).2.2.2.1, (V q7 G7).2.2.2.2, Int.toNat_natCast, Int.toNat_natCast]
  have hD7 : DiskAt (q7.h 16) dp (clearR D LB bB).D := by rw [A47.h 16 (by omega)]; exact hD4
  have hB7 : LogAt (q7.h 15) pb dp (clearR D LB bB).L (clearR D LB bB).bs := by rw [A47.h 15 (by omega)]; exact hB4
  have hU7 : RdW (q7.h 9) (.slice (slP x y) b.length c) b := by rw [(W q7 G7).2.2.2.2.1]; exact hU
  rw [(V q7 G7).1, (W q7 G7).1, Int.toNat_natCast, hc1, epB, hsl, hnote]
  refine ⟨⟨pb, _, b, nt8g (genI LA), _, _, _, dp, _, _, _, rfl, rfl, rfl, hB7, hD7, hU7, by rw [z1]; exact Nat.zero_le _, rfl, by rw [z2]; show 0 ≤ LB.serial + 1; omega⟩, fun q8 g8 ⟨_, p8, _, _⟩ => ?_⟩
  have p8 := append_post (nt := nt8g (genI LA)) hB7 hD7 hU7 p8
  obtain ⟨HB2, HD2, hK, hD8, hB8, he8⟩ := p8
  have hK : [q8.h 21, q8.h 22] = [HB2, HD2] := hK
  simp only [List.cons.injEq, and_true] at hK
  obtain ⟨rfl, rfl⟩ := hK
  rw [← er] at hD8 hB8 he8
  have e21 : q8.i 21 = (renewR D (genI LA) LB bB b).e := by simpa using he8
  have G8 : Agree 12 ρ q8 := G7.trans (g8.mono (by omega))
  rw [(W q8 G8).2.2.2.2.2]
  refine ⟨⟨_, _, RG, g, rfl, rfl, hG⟩, fun q9 g9 ⟨_, ⟨s2, c2, R2, ex2, eR2, hE2⟩, _, _⟩ => ?_⟩
  simp only [List.cons.injEq, Value.string.injEq, Value.int.injEq, true_and, and_true] at ex2 eR2
  obtain ⟨_, rfl⟩ := ex2
  subst eR2
  rw [e21] at hE2
  refine fin ?_ ?_ hE2
  · rw [g9.h 22 (by omega)]; exact hD8
  · rw [g9.h 21 (by omega)]; exact hB8
end Go.Proofs.YtomdimlnggpgbaaGreatDoor
namespace Go.Proofs.YtomdimlnggpgbaaGreatDoor
open Go Go.Sx Go.Pk
open Go.Proofs.YtomdimlnggpgbaaGreatDoor.D hiding envI noLoops numS
def compD (S : SM) (rows : List (List Int)) (r : AR) : AdR :=
  if numC r.e = 0 then ⟨0, r.D, ⟨r.L, r.bs, S.LA, S.bA, rows, S.over⟩⟩
  else ⟨numC r.e, r.D, ⟨S.LA, S.bA, r.L, r.bs, S.recs, if r.e ≠ 0 ∧ gi r.e = gLost then true else S.over⟩⟩
open Classical in
noncomputable def compR (D : DM) (S : SM) (rows : List (List Int)) : AdR :=
  if S.over = true then ⟨5, D, S⟩
  else if ¬ packOk rows then ⟨3, D, S⟩
  else if S.LB.most < (packB rows).length then ⟨4, D, S⟩
  else compD S rows (renewR D (genI S.LA) S.LB S.bB (packB rows))
noncomputable def cmpS : Sx.Spec where
  fn := 17
  own := [.arg 0, .link 0 0]
  rd := [1, 3000001, 2000000]
  res := [.one (.int .i64)]
  pre := fun xs Hs Rs => ∃ p v H HD R RA RG g dp S D rows, xs = [p, v] ∧ Hs = [H, HD] ∧ Rs = [R, RA, RG] ∧ StoreAt H p dp S ∧ DiskAt HD dp D ∧ RowsB R RA v rows ∧ Gl RG g ∧ rows.length ≤ 1000000 ∧ (∀ r ∈ rows, 0 ≤ r.length) ∧ S.bA.length ≤ 1048576 ∧ S.bB.length ≤ 1048576 ∧ 0 ≤ S.LB.serial ∧ S.LB.serial < spentN ∧ S.LA.serial < spentN ∧ genI S.LA < spentN
  post := fun xs Hs Rs w Hs' F => ∃ p v H HD R RA RG dp S D rows H' HD', xs = [p, v] ∧ Hs = [H, HD] ∧ Rs = [R, RA, RG] ∧ StoreAt H p dp S ∧ DiskAt HD dp D ∧ RowsB R RA v rows ∧ Hs' = [H', HD'] ∧ DiskAt HD' dp (compR D S rows).D ∧ StoreAt H' p dp (compR D S rows).S ∧ w = .int .i64 (compR D S rows).e
noncomputable def cmΓ : List Sx.Spec := [readyS, roomS, bytesS, renewS, isS, numberE, cloneSS]
theorem cmΓ_ok : ∀ t ∈ cmΓ, t.OK Tryz.prog := fun t ht => by
  simp only [cmΓ, List.mem_cons, List.mem_nil_iff, or_false] at ht
  rcases ht with rfl | rfl | rfl | rfl | rfl | rfl | rfl
  · exact readyS_ok
  · exact roomS_ok
  · exact bytesS_ok
  · exact renewS_ok
  · exact isS_ok
  · exact numberE_ok
  · exact cloneSS_ok
def cmpNd : Nd := .and (.pre (.call 0 19 [.sv (.one (.hptr (.var 0) (.lit 0))), .sv (.one (.sl (.var 1) (.var 2) (.var 3) (.var 4)))] [] [.blk 0 [.hptr (.var 5) (.lit 0), .hptr (.var 6) (.lit 0), .sl (.var 7) (.lit 0) (.var 8) (.var 9), .bool (.bvar 10)] 101, .ro 16 [.var 1] false, .ro 17 [] true])) (.ext (.call 0 19 [.sv (.one (.hptr (.var 0) (.lit 0))), .sv (.one (.sl (.var 1) (.var 2) (.var 3) (.var 4)))] [] [.blk 0 [.hptr (.var 5) (.lit 0), .hptr (.var 6) (.lit 0), .sl (.var 7) (.lit 0) (.var 8) (.var 9), .bool (.bvar 10)] 101, .ro 16 [.var 1] false, .ro 17 [] true]) (.and (.imp (.not (.eq (.var 23) (.lit 0))) (.post [.blk 0 [.hptr (.var 5) (.lit 0), .hptr (.var 6) (.lit 0), .sl (.var 7) (.lit 0) (.var 8) (.var 9), .bool (.bvar 10)] 101, .hp 12 [] [.var 5] [.var 11], .hp 13 [] [.var 6] [.var 11], .hp 14 [] [.var 7] [], .hp 15 [] [.var 11] [], .ro 16 [.var 1] false, .ro 17 [] true, .ro 18 [.lit 0, .lit 1, .lit 2] false, .hp 19 [] [.var 19] []] (.sv (.one (.int .i64 (.var 23)))))) (.imp (.eq (.var 23) (.lit 0)) (.and (.e (.le (.lit 0) (.var 21))) (.and (.pre (.call 1 24 [.sv (.one (.hptr (.var 6) (.lit 0)))] [] [.hp 13 [] [.var 6] [.var 11]])) (.ext (.call 1 24 [.sv (.one (.hptr (.var 6) (.lit 0)))] [] [.hp 13 [] [.var 6] [.var 11]]) (.and (.pre (.call 2 25 [.sv (.one (.hptr (.var 6) (.lit 0)))] [] [.hp 13 [] [.var 6] [.var 11], .hp 13 [] [.var 6] [.var 11]])) (.ext (.call 2 25 [.sv (.one (.hptr (.var 6) (.lit 0)))] [] [.hp 13 [] [.var 6] [.var 11], .hp 13 [] [.var 6] [.var 11]]) (.and (.e (.le (.lit 0) (.var 27))) (.and (.imp (.lt (.wrap .i64 (.add (.var 24) (.var 27))) (.var 21)) (.post [.blk 0 [.hptr (.var 5) (.lit 0), .hptr (.var 6) (.lit 0), .sl (.var 7) (.lit 0) (.var 8) (.var 9), .bool (.bvar 10)] 101, .hp 12 [] [.var 5] [.var 11], .hp 13 [] [.var 6] [.var 11], .hp 14 [] [.var 7] [], .hp 15 [] [.var 11] [], .ro 16 [.var 1] false, .ro 17 [] true, .ro 18 [.lit 0, .lit 1, .lit 2] false, .hp 19 [] [.var 19] [], .hp 25 [] [.var 25] []] (.sv (.one (.int .i64 (.lit 4)))))) (.imp (.not (.lt (.wrap .i64 (.add (.var 24) (.var 27))) (.var 21))) (.and (.pre (.call 3 29 [.sv (.one (.hptr (.var 0) (.lit 0))), .sv (.one (.sl (.var 19) (.var 20) (.var 21) (.var 22)))] [.hp 13 [] [.var 6] [.var 11], .hp 15 [] [.var 11] []] [.blk 0 [.hptr (.var 5) (.lit 0), .hptr (.var 6) (.lit 0), .sl (.var 7) (.lit 0) (.var 8) (.var 9), .bool (.bvar 10)] 101, .hp 12 [] [.var 5] [.var 11], .hp 19 [] [.var 19] [], .ro 18 [.lit 0, .lit 1, .lit 2] false])) (.ext (.call 3 29 [.sv (.one (.hptr (.var 0) (.lit 0))), .sv (.one (.sl (.var 19) (.var 20) (.var 21) (.var 22)))] [.hp 13 [] [.var 6] [.var 11], .hp 15 [] [.var 11] []] [.blk 0 [.hptr (.var 5) (.lit 0), .hptr (.var 6) (.lit 0), .sl (.var 7) (.lit 0) (.var 8) (.var 9), .bool (.bvar 10)] 101, .hp 12 [] [.var 5] [.var 11], .hp 19 [] [.var 19] [], .ro 18 [.lit 0, .lit 1, .lit 2] false]) (.and (.e (.his 18 (.lit 0) (.lit 0) 0 .any)) (.and (.pre (.call 4 32 [.sv (.one (.vr 29)), .sv (.one (.hv 18 (.lit 0) (.lit 0) 0))] [] [.ro 18 [.lit 0, .lit 1, .lit 2] false])) (.ext (.call 4 32 [.sv (.one (.vr 29)), .sv (.one (.hv 18 (.lit 0) (.lit 0) 0))] [] [.ro 18 [.lit 0, .lit 1, .lit 2] false]) (.and (.imp (.bvar 32) (.and (.pre (.call 5 33 [.sv (.one (.vr 29))] [] [.ro 18 [.lit 0, .lit 1, .lit 2] false])) (.ext (.call 5 33 [.sv (.one (.vr 29))] [] [.ro 18 [.lit 0, .lit 1, .lit 2] false]) (.and (.imp (.not (.eq (.var 33) (.lit 0))) (.post [.blk 0 [.hptr (.var 5) (.lit 0), .hptr (.var 6) (.lit 0), .sl (.var 7) (.lit 0) (.var 8) (.var 9), .bool .tt] 101, .hp 12 [] [.var 5] [.var 11], .hp 29 [13] [.var 6] [.var 11], .hp 14 [] [.var 7] [], .hp 30 [15] [.var 11] [], .ro 16 [.var 1] false, .ro 17 [] true, .ro 18 [.lit 0, .lit 1, .lit 2] false, .hp 19 [] [.var 19] [], .hp 25 [] [.var 25] []] (.sv (.one (.int .i64 (.var 33)))))) (.imp (.eq (.var 33) (.lit 0)) (.and (.e (.le (.lit 0) (.var 3))) (.and (.inv 0 [⟨60, 0, .int .i64 (.lit 0)⟩, ⟨61, 0, .int .i64 (.lit (-1))⟩, ⟨62, 0, .int .i64 (.lit 0)⟩, ⟨63, 0, .int .i64 (.lit 0)⟩, ⟨65, 1, .bool .tt⟩] [(64, some 14)]) (.havoc 0 0 34 (.and (.imp (.lt (.var 60) (.var 3)) (.and (.e (.le (.lit 0) (.var 1))) (.and (.e (.le (.lit 0) (.var 2))) (.and (.e (.le (.lit 0) (.var 60))) (.and (.e (.his 16 (.var 1) (.add (.var 2) (.var 60)) 0 .slice)) (.and (.pre (.call 6 66 [.sv (.one (.sl (.hP 16 (.var 1) (.add (.var 2) (.var 60)) 0 0) (.hP 16 (.var 1) (.add (.var 2) (.var 60)) 0 1) (.hP 16 (.var 1) (.add (.var 2) (.var 60)) 0 2) (.hP 16 (.var 1) (.add (.var 2) (.var 60)) 0 3)))] [] [.ro 17 [] true])) (.ext (.call 6 66 [.sv (.one (.sl (.hP 16 (.var 1) (.add (.var 2) (.var 60)) 0 0) (.hP 16 (.var 1) (.add (.var 2) (.var 60)) 0 1) (.hP 16 (.var 1) (.add (.var 2) (.var 60)) 0 2) (.hP 16 (.var 1) (.add (.var 2) (.var 60)) 0 3)))] [] [.ro 17 [] true]) (.ext (.alloc 70) (.ext (.mrg 71 (.hp 64 [] [.var 61] []) (.hp 66 [] [.var 66] [])) (.and (.pre (.app 72 46 1 24 (.sl (.var 61) (.lit 0) (.var 62) (.var 63)) (.var 62) (.hp 71 [64, 66] [.var 61, .var 66, .var 66] []) (.cvs [.sl (.var 66) (.var 67) (.var 68) (.var 69)] 1))) (.ext (.app 72 46 1 24 (.sl (.var 61) (.lit 0) (.var 62) (.var 63)) (.var 62) (.hp 71 [64, 66] [.var 61, .var 66, .var 66] []) (.cvs [.sl (.var 66) (.var 67) (.var 68) (.var 69)] 1)) (.back 0 0 [⟨60, 0, .int .i64 (.wrap .i64 (.add (.var 60) (.lit 1)))⟩, ⟨61, 0, .int .i64 (.var 72)⟩, ⟨62, 0, .int .i64 (.add (.var 62) (.lit 1))⟩, ⟨63, 0, .int .i64 (.var 73)⟩, ⟨65, 1, .bool (.bvar 65)⟩] [(64, some 72)])))))))))))) (.imp (.not (.lt (.var 60) (.var 3))) (.post [.blk 0 [.hptr (.var 6) (.lit 0), .hptr (.var 5) (.lit 0), .sl (.var 61) (.lit 0) (.var 62) (.var 63), .bool (.bvar 65)] 101, .hp 12 [] [.var 5] [.var 11], .hp 29 [13] [.var 6] [.var 11], .hp 64 [] [.var 61] [], .hp 30 [15] [.var 11] [], .ro 16 [.var 1] false, .ro 17 [] true, .ro 18 [.lit 0, .lit 1, .lit 2] false, .hp 19 [] [.var 19] [], .hp 25 [] [.var 25] []] (.sv (.one (.int .i64 (.lit 0))))))))))))))) (.imp (.not (.bvar 32)) (.and (.pre (.call 5 33 [.sv (.one (.vr 29))] [] [.ro 18 [.lit 0, .lit 1, .lit 2] false])) (.ext (.call 5 33 [.sv (.one (.vr 29))] [] [.ro 18 [.lit 0, .lit 1, .lit 2] false]) (.and (.imp (.not (.eq (.var 33) (.lit 0))) (.post [.blk 0 [.hptr (.var 5) (.lit 0), .hptr (.var 6) (.lit 0), .sl (.var 7) (.lit 0) (.var 8) (.var 9), .bool (.bvar 10)] 101, .hp 12 [] [.var 5] [.var 11], .hp 29 [13] [.var 6] [.var 11], .hp 14 [] [.var 7] [], .hp 30 [15] [.var 11] [], .ro 16 [.var 1] false, .ro 17 [] true, .ro 18 [.lit 0, .lit 1, .lit 2] false, .hp 19 [] [.var 19] [], .hp 25 [] [.var 25] []] (.sv (.one (.int .i64 (.var 33)))))) (.imp (.eq (.var 33) (.lit 0)) (.and (.e (.le (.lit 0) (.var 3))) (.and (.inv 0 [⟨60, 0, .int .i64 (.lit 0)⟩, ⟨61, 0, .int .i64 (.lit (-1))⟩, ⟨62, 0, .int .i64 (.lit 0)⟩, ⟨63, 0, .int .i64 (.lit 0)⟩, ⟨65, 1, .bool (.bvar 10)⟩] [(64, some 14)]) (.havoc 0 0 34 (.and (.imp (.lt (.var 60) (.var 3)) (.and (.e (.le (.lit 0) (.var 1))) (.and (.e (.le (.lit 0) (.var 2))) (.and (.e (.le (.lit 0) (.var 60))) (.and (.e (.his 16 (.var 1) (.add (.var 2) (.var 60)) 0 .slice)) (.and (.pre (.call 6 66 [.sv (.one (.sl (.hP 16 (.var 1) (.add (.var 2) (.var 60)) 0 0) (.hP 16 (.var 1) (.add (.var 2) (.var 60)) 0 1) (.hP 16 (.var 1) (.add (.var 2) (.var 60)) 0 2) (.hP 16 (.var 1) (.add (.var 2) (.var 60)) 0 3)))] [] [.ro 17 [] true])) (.ext (.call 6 66 [.sv (.one (.sl (.hP 16 (.var 1) (.add (.var 2) (.var 60)) 0 0) (.hP 16 (.var 1) (.add (.var 2) (.var 60)) 0 1) (.hP 16 (.var 1) (.add (.var 2) (.var 60)) 0 2) (.hP 16 (.var 1) (.add (.var 2) (.var 60)) 0 3)))] [] [.ro 17 [] true]) (.ext (.alloc 70) (.ext (.mrg 71 (.hp 64 [] [.var 61] []) (.hp 66 [] [.var 66] [])) (.and (.pre (.app 72 46 1 24 (.sl (.var 61) (.lit 0) (.var 62) (.var 63)) (.var 62) (.hp 71 [64, 66] [.var 61, .var 66, .var 66] []) (.cvs [.sl (.var 66) (.var 67) (.var 68) (.var 69)] 1))) (.ext (.app 72 46 1 24 (.sl (.var 61) (.lit 0) (.var 62) (.var 63)) (.var 62) (.hp 71 [64, 66] [.var 61, .var 66, .var 66] []) (.cvs [.sl (.var 66) (.var 67) (.var 68) (.var 69)] 1)) (.back 0 0 [⟨60, 0, .int .i64 (.wrap .i64 (.add (.var 60) (.lit 1)))⟩, ⟨61, 0, .int .i64 (.var 72)⟩, ⟨62, 0, .int .i64 (.add (.var 62) (.lit 1))⟩, ⟨63, 0, .int .i64 (.var 73)⟩, ⟨65, 1, .bool (.bvar 65)⟩] [(64, some 72)])))))))))))) (.imp (.not (.lt (.var 60) (.var 3))) (.post [.blk 0 [.hptr (.var 6) (.lit 0), .hptr (.var 5) (.lit 0), .sl (.var 61) (.lit 0) (.var 62) (.var 63), .bool (.bvar 65)] 101, .hp 12 [] [.var 5] [.var 11], .hp 29 [13] [.var 6] [.var 11], .hp 64 [] [.var 61] [], .hp 30 [15] [.var 11] [], .ro 16 [.var 1] false, .ro 17 [] true, .ro 18 [.lit 0, .lit 1, .lit 2] false, .hp 19 [] [.var 19] [], .hp 25 [] [.var 25] []] (.sv (.one (.int .i64 (.lit 0))))))))))))))))))))))))))))))))
noncomputable def cmpW : Walk Tryz.prog cmΓ cmpS.fn where
  Λ := fun p => if lp0 p then some ⟨0, [(61, TI .i64 (.var 60))], [(0, .blk 0 [.hptr (.var 6) (.lit 0), .hptr (.var 5) (.lit 0), .sl (.var 61) (.lit 0) (.var 62) (.var 63), .bool (.bvar 65)] 101), (3, .hp 64 [] [.var 61] [])], 66⟩ else none
  args := [TP (.var 0) (.lit 0), .sv (.one (.sl (.var 1) (.var 2) (.var 3) (.var 4)))]
  mem := [.blk 0 [.hptr (.var 5) (.lit 0), .hptr (.var 6) (.lit 0), .sl (.var 7) (.lit 0) (.var 8) (.var 9), .bool (.bvar 10)] 101, .hp 12 [] [.var 5] [.var 11], .hp 13 [] [.var 6] [.var 11], .hp 14 [] [.var 7] [], .hp 15 [] [.var 11] [], .ro 16 [.var 1] false, .ro 17 [] true, .ro 18 [.lit 0, .lit 1, .lit 2] false]
  nv := 19
  nd := cmpNd
  ok := by kernel_rfl
theorem cmg0 : cmΓ[0]? = some readyS := rfl
theorem cmg1 : cmΓ[1]? = some roomS := rfl
theorem cmg2 : cmΓ[2]? = some bytesS := rfl
theorem cmg3 : cmΓ[3]? = some renewS := rfl
theorem cmg4 : cmΓ[4]? = some isS := rfl
theorem cmg5 : cmΓ[5]? = some numberE := rfl
theorem cmg6 : cmΓ[6]? = some cloneSS := rfl
theorem cmr2 : bytesS.res = [.one .sl] := rfl
theorem cmr3 : renewS.res = [.one .any] := rfl
set_option maxRecDepth 8000 in
theorem cmpS_ok : cmpS.OK Tryz.prog := by
  refine spec_of_fn2 (Γ := cmΓ) cmΓ_ok ?_
  rintro xs Hs Rs hl1 hl2 hdis ⟨p, v, H, HD, R, RA, RG, g, dp, S, D, rows, rfl, rfl, rfl, hAt, hD, hB, hG, hlen, hrow, hbA, hbB, hs0, hs1, hs2, hs3⟩
  obtain ⟨a, pa, pb, sl, HA, HB, HR, rfl, hIn⟩ := id hAt
  obtain ⟨us, x, y, c, rfl, hy, hul, hcell, hrd⟩ := id hB
  obtain ⟨da, s, m, es, clock, hdp, hDi⟩ := id hD
  obtain ⟨rx, rc, hrx, hsl⟩ := hIn.rows.rep
  obtain ⟨aa, _, _, hpa, _⟩ := id hIn.la
  obtain ⟨ab, _, _, hpb, _⟩ := id hIn.lb
  obtain ⟨l1, l2, l3, l4⟩ := hls4_le hIn.d1 hIn.d2 hIn.d3 hIn.d4 hIn.d5 hIn.d6
  rw [← hIn.hl] at l1 l2 l3 l4
  have hHD : H.dis HD := hdis 0 1 _ _ (by decide) rfl rfl
  generalize hρ : envI [(a : Int), x, y, us.length, c, aa, ab, rx, S.recs.length, rc, 0, da] S.over [Hl.none, Hl.none, Hl.none, Hl.none, Hl.none, Hl.none, Hl.none, Hl.none, Hl.none, Hl.none, Hl.none, Hl.none, HA, HB, HR, HD, R, RA, RG] = ρ
  have v0 : ρ.i 0 = a := by rw [← hρ]; rfl
  have v1 : ρ.i 1 = x := by rw [← hρ]; rfl
  have v2 : ρ.i 2 = y := by rw [← hρ]; rfl
  have v3 : ρ.i 3 = us.length := by rw [← hρ]; rfl
  have v4 : ρ.i 4 = c := by rw [← hρ]; rfl
  have v5 : ρ.i 5 = aa := by rw [← hρ]; rfl
  have v6 : ρ.i 6 = ab := by rw [← hρ]; rfl
  have v7 : ρ.i 7 = rx := by rw [← hρ]; rfl
  have v8 : ρ.i 8 = S.recs.length := by rw [← hρ]; rfl
  have v9 : ρ.i 9 = rc := by rw [← hρ]; rfl
  have v11 : ρ.i 11 = da := by rw [← hρ]; rfl
  have b10 : ρ.b 10 = S.over := by rw [← hρ]; rfl
  have w12 : ρ.h 12 = HA := by rw [← hρ]; rfl
  have w13 : ρ.h 13 = HB := by rw [← hρ]; rfl
  have w14 : ρ.h 14 = HR := by rw [← hρ]; rfl
  have w15 : ρ.h 15 = HD := by rw [← hρ]; rfl
  have w16 : ρ.h 16 = R := by rw [← hρ]; rfl
  have w17 : ρ.h 17 = RA := by rw [← hρ]; rfl
  have w18 : ρ.h 18 = RG := by rw [← hρ]; rfl
  clear hρ
  have ea : Value.pointer (slP (aa : Int) 0) = pa := by rw [ptr0, hpa]
  have eb : Value.pointer (slP (ab : Int) 0) = pb := by rw [ptr0, hpb]
  have eBlk : ∀ (q : Env) (cs : CV) (o : E), q.i 0 = a → q.i 5 = aa → q.i 6 = ab → (Res.blk 0 [.hptr (.var 5) (.lit 0), .hptr (.var 6) (.lit 0), cs, .bool o] 101).hl q = sHl a pa pb (cs.ev q) (bev q o) := by
    intro q cs o h0 h5 h6
    show Hl.one (q.i 0).toNat (.cells #[Value.pointer (slP (q.i 5) 0), Value.pointer (slP (q.i 6) 0), cs.ev q, .bool (bev q o)] _ (0, 0)) = _
    rw [h0, h5, h6, ea, eb, Int.toNat_natCast]; rfl
  have e0 : (Res.blk 0 [.hptr (.var 5) (.lit 0), .hptr (.var 6) (.lit 0), .sl (.var 7) (.lit 0) (.var 8) (.var 9), .bool (.bvar 10)] 101).hl ρ = sHl a pa pb sl S.over := by
    rw [eBlk ρ _ _ v0 v5 v6, bev_bvar, b10]
    congr 1
    show Value.slice (slP (ρ.i 7) 0) (ρ.i 8).toNat (ρ.i 9).toNat = _
    rw [v7, v8, v9, Int.toNat_natCast, Int.toNat_natCast, hsl]
  refine ⟨cmpW, ρ, fun _ q => ∃ k : Nat, q.i 60 = k ∧ k ≤ rows.length ∧ -1 ≤ q.i 61 ∧ 0 ≤ q.i 62 ∧ 0 ≤ q.i 63 ∧ q.b 65 = false ∧ RowsR (q.h 64) (.slice (slP (q.i 61) 0) (q.i 62).toNat (q.i 63).toNat) (rows.take k), fun _ q => (rows.length - q.i 60).toNat, ?_, ⟨?_, ?_, ?_, ?_⟩, (fun _ h => nomatch h), ?_⟩
  · show [Value.pointer (slP (ρ.i 0) 0), Value.slice (slP (ρ.i 1) (ρ.i 2)) (ρ.i 3).toNat (ρ.i 4).toNat] = _
    rw [v0, v1, v2, v3, v4, Int.toNat_natCast, Int.toNat_natCast, ptr0]
  · intro r hr ho
    simp only [cmpW, List.mem_cons, List.mem_nil_iff, or_false] at hr
    rcases hr with rfl | rfl | rfl | rfl | rfl | rfl | rfl | rfl
    · exact ⟨H, by simp, by rw [e0]; exact l1⟩
    · exact ⟨H, by simp, by show (ρ.h 12).le H; rw [w12]; exact l2⟩
    · exact ⟨H, by simp, by show (ρ.h 13).le H; rw [w13]; exact l3⟩
    · exact ⟨H, by simp, by show (ρ.h 14).le H; rw [w14]; exact l4⟩
    · exact ⟨HD, by simp, by show (ρ.h 15).le HD; rw [w15]; exact Hl.le_refl _⟩
    · cases ho
    · cases ho
    · cases ho
  · intro r hr ho
    simp only [cmpW, List.mem_cons, List.mem_nil_iff, or_false] at hr
    rcases hr with rfl | rfl | rfl | rfl | rfl | rfl | rfl | rfl
    · cases ho
    · cases ho
    · cases ho
    · cases ho
    · cases ho
    · exact ⟨R, by simp, by show (ρ.h 16).le R; rw [w16]; exact Hl.le_refl _⟩
    · exact ⟨RA, by simp, by show (ρ.h 17).le RA; rw [w17]; exact Hl.le_refl _⟩
    · exact ⟨RG, by simp, by show (ρ.h 18).le RG; rw [w18]; exact Hl.le_refl _⟩
  · have dD : ∀ K : Hl, K.le H → K.dis HD := fun K hK => Hl.dis_symm (Hl.dis_le (Hl.dis_symm hHD) hK)
    have mem4 : cmpW.mem = [.blk 0 [.hptr (.var 5) (.lit 0), .hptr (.var 6) (.lit 0), .sl (.var 7) (.lit 0) (.var 8) (.var 9), .bool (.bvar 10)] 101, .hp 12 [] [.var 5] [.var 11], .hp 13 [] [.var 6] [.var 11], .hp 14 [] [.var 7] [], .hp 15 [] [.var 11] [], .ro 16 [.var 1] false, .ro 17 [] true, .ro 18 [.lit 0, .lit 1, .lit 2] false] := rfl
    rw [mem4]
    have ro3 : ∀ (l : Mem), (∀ r ∈ l, r.own = false) → ∀ K : Res, ∀ r ∈ l, K.own = true → r.own = true → (K.hl ρ).dis (r.hl ρ) := fun l h K r hr _ ho => by rw [h r hr] at ho; cases ho
    have hro : ∀ r ∈ ([.ro 16 [.var 1] false, .ro 17 [] true, .ro 18 [.lit 0, .lit 1, .lit 2] false] : Mem), r.own = false := by
      intro r hr
      simp only [List.mem_cons, List.mem_nil_iff, or_false] at hr
      rcases hr with rfl | rfl | rfl <;> rfl
    refine List.Pairwise.cons (fun r hr hk ho => ?_) (List.Pairwise.cons (fun r hr hk ho => ?_) (List.Pairwise.cons (fun r hr hk ho => ?_) (List.Pairwise.cons (fun r hr hk ho => ?_) (List.Pairwise.cons (fun r hr hk ho => ro3 _ hro _ r hr hk ho) (List.Pairwise.cons (fun r hr hk ho => by cases hk) (List.Pairwise.cons (fun r hr hk ho => by cases hk) (List.Pairwise.cons (fun r hr => by cases hr) List.Pairwise.nil)))))))
    · rw [e0]
      rw [List.mem_cons, List.mem_cons, List.mem_cons, List.mem_cons] at hr
      rcases hr with rfl | rfl | rfl | rfl | hr
      · show (sHl a pa pb sl S.over).dis (ρ.h 12); rw [w12]; exact hIn.d1
      · show (sHl a pa pb sl S.over).dis (ρ.h 13); rw [w13]; exact hIn.d2
      · show (sHl a pa pb sl S.over).dis (ρ.h 14); rw [w14]; exact hIn.d3
      · show (sHl a pa pb sl S.over).dis (ρ.h 15); rw [w15]; exact dD _ l1
      · rw [hro r hr] at ho; cases ho
    · rw [List.mem_cons, List.mem_cons, List.mem_cons] at hr
      show (ρ.h 12).dis _
      rw [w12]
      rcases hr with rfl | rfl | rfl | hr
      · show HA.dis (ρ.h 13); rw [w13]; exact hIn.d4
      · show HA.dis (ρ.h 14); rw [w14]; exact hIn.d5
      · show HA.dis (ρ.h 15); rw [w15]; exact dD _ l2
      · rw [hro r hr] at ho; cases ho
    · rw [List.mem_cons, List.mem_cons] at hr
      show (ρ.h 13).dis _
      rw [w13]
      rcases hr with rfl | rfl | hr
      · show HB.dis (ρ.h 14); rw [w14]; exact hIn.d6
      · show HB.dis (ρ.h 15); rw [w15]; exact dD _ l3
      · rw [hro r hr] at ho; cases ho
    · rw [List.mem_cons] at hr
      show (ρ.h 14).dis _
      rw [w14]
      rcases hr with rfl | hr
      · show HR.dis (ρ.h 15); rw [w15]; exact dD _ l4
      · rw [hro r hr] at ho; cases ho
  · intro r hr
    simp only [cmpW, List.mem_cons, List.mem_nil_iff, or_false] at hr
    rcases hr with rfl | rfl | rfl | rfl | rfl | rfl | rfl | rfl
    · show (0 : Int) ≤ ρ.i 0; omega
    all_goals trivial
  · show Nd.holds _ _ _ cmpNd
    have fin0 : ∀ (q : Env) (hM hR hK : Nat) (vL vM vR vK : List Nat) (rL rM rR rK kL kM kR kK : List E) (cs : CV) (o rv : E) (t : Mem), Agree 19 ρ q → (compR D S rows).S.LA = S.LA ∧ (compR D S rows).S.bA = S.bA →
        LogAt (q.h hM) pb dp (compR D S rows).S.LB (compR D S rows).S.bB → RowsR (q.h hR) (cs.ev q) (compR D S rows).S.recs → bev q o = (compR D S rows).S.over → DiskAt (q.h hK) dp (compR D S rows).D → iev q rv = (compR D S rows).e →
        postOf cmpS [.pointer (some ⟨a, 0, none⟩), .slice (slP x y) us.length c] [H, HD] [R, RA, RG] q (.blk 0 [.hptr (.var 5) (.lit 0), .hptr (.var 6) (.lit 0), cs, .bool o] 101 :: .hp 12 vL rL kL :: .hp hM vM rM kM :: .hp hR vR rR kR :: .hp hK vK rK kK :: t) (.sv (.one (.int .i64 rv))) := by
      intro q hM hR hK vL vM vR vK rL rM rR rK kL kM kR kK cs o rv t hg hSA hMq hRq hoq hDq heq hd
      have eq0 := eBlk q cs o (by rw [hg.i 0 (by omega), v0]) (by rw [hg.i 5 (by omega), v5]) (by rw [hg.i 6 (by omega), v6])
      rw [hoq] at eq0
      refine ⟨[[0, 1, 2, 3], [4]], [], rfl, rfl, ⟨⟨fun _ => (compR D S rows).e, fun _ => false, fun _ => .empty, fun _ => .tuple #[], fun _ => Hl.none⟩, ?_, trivial, trivial⟩, _, _, H, HD, R, RA, RG, dp, S, D, rows, _, _, rfl, rfl, rfl, hAt, hD, hB, rfl, ?_, ?_, ?_⟩
      · show Value.int .i64 (iev q rv) = .int .i64 (compR D S rows).e
        rw [heq]
      · show DiskAt (hls [q.h hK]) _ _
        rw [hls_one]; exact hDq
      · refine ⟨a, pa, pb, cs.ev q, q.h 12, q.h hM, q.h hR, rfl, ?_, hMq, hRq, ?_, ?_, ?_, hd 1 2 _ _ (by decide) rfl rfl rfl, hd 1 3 _ _ (by decide) rfl rfl rfl, hd 2 3 _ _ (by decide) rfl rfl rfl, ?_⟩
        · rw [hSA.1, hSA.2, hg.h 12 (by omega), w12]; exact hIn.la
        · rw [← eq0]; exact hd 0 1 _ _ (by decide) rfl rfl rfl
        · rw [← eq0]; exact hd 0 2 _ _ (by decide) rfl rfl rfl
        · rw [← eq0]; exact hd 0 3 _ _ (by decide) rfl rfl rfl
        · rw [← eq0]; rfl
      · show Value.int .i64 (iev q rv) = .int .i64 (compR D S rows).e
        rw [heq]
    have fin1 : ∀ (q : Env) (hM hR hK : Nat) (vL vM vR vK : List Nat) (rL rM rR rK kL kM kR kK : List E) (cs : CV) (o rv : E) (t : Mem), Agree 19 ρ q → (compR D S rows).S.LB = S.LA ∧ (compR D S rows).S.bB = S.bA →
        LogAt (q.h hM) pb dp (compR D S rows).S.LA (compR D S rows).S.bA → RowsR (q.h hR) (cs.ev q) (compR D S rows).S.recs → bev q o = (compR D S rows).S.over → DiskAt (q.h hK) dp (compR D S rows).D → iev q rv = (compR D S rows).e →
        postOf cmpS [.pointer (some ⟨a, 0, none⟩), .slice (slP x y) us.length c] [H, HD] [R, RA, RG] q (.blk 0 [.hptr (.var 6) (.lit 0), .hptr (.var 5) (.lit 0), cs, .bool o] 101 :: .hp 12 vL rL kL :: .hp hM vM rM kM :: .hp hR vR rR kR :: .hp hK vK rK kK :: t) (.sv (.one (.int .i64 rv))) := by
      intro q hM hR hK vL vM vR vK rL rM rR rK kL kM kR kK cs o rv t hg hSA hMq hRq hoq hDq heq hd
      have eq0 : (Res.blk 0 [.hptr (.var 6) (.lit 0), .hptr (.var 5) (.lit 0), cs, .bool o] 101).hl q = sHl a pb pa (cs.ev q) (bev q o) := by
        show Hl.one (q.i 0).toNat (.cells #[Value.pointer (slP (q.i 6) 0), Value.pointer (slP (q.i 5) 0), cs.ev q, .bool (bev q o)] _ (0, 0)) = _
        rw [hg.i 0 (by omega), hg.i 5 (by omega), hg.i 6 (by omega), v0, v5, v6, ea, eb, Int.toNat_natCast]; rfl
      rw [hoq] at eq0
      refine ⟨[[0, 2, 1, 3], [4]], [], rfl, rfl, ⟨⟨fun _ => (compR D S rows).e, fun _ => false, fun _ => .empty, fun _ => .tuple #[], fun _ => Hl.none⟩, ?_, trivial, trivial⟩, _, _, H, HD, R, RA, RG, dp, S, D, rows, _, _, rfl, rfl, rfl, hAt, hD, hB, rfl, ?_, ?_, ?_⟩
      · show Value.int .i64 (iev q rv) = .int .i64 (compR D S rows).e
        rw [heq]
      · show DiskAt (hls [q.h hK]) _ _
        rw [hls_one]; exact hDq
      · refine ⟨a, pb, pa, cs.ev q, q.h hM, q.h 12, q.h hR, rfl, hMq, ?_, hRq, ?_, ?_, ?_, hd 2 1 _ _ (by decide) rfl rfl rfl, hd 2 3 _ _ (by decide) rfl rfl rfl, hd 1 3 _ _ (by decide) rfl rfl rfl, ?_⟩
        · rw [hSA.1, hSA.2, hg.h 12 (by omega), w12]; exact hIn.la
        · rw [← eq0]; exact hd 0 2 _ _ (by decide) rfl rfl rfl
        · rw [← eq0]; exact hd 0 1 _ _ (by decide) rfl rfl rfl
        · rw [← eq0]; exact hd 0 3 _ _ (by decide) rfl rfl rfl
        · rw [← eq0]; rfl
      · show Value.int .i64 (iev q rv) = .int .i64 (compR D S rows).e
        rw [heq]
    unfold cmpNd
    simp only [Nd.holds, X.pre, X.rel, X.n, Src.ok, Src.len, Src.vals, true_and, and_true, if_true, Nat.mul_one, Nat.add_zero, Nat.reduceAdd, List.length_cons, List.length_nil, bT_tt, bT_ff, bT_bvar, bT_not, bT_and, bT_or, bT_ite, bT_lt, bT_le, bT_eq, bT_beq, bT_seq, bT_hB, bT_his, bT_hby, bT_hism, bT_hks, iev_lit, iev_var, iev_add, iev_sub, iev_mul, iev_wrap, iev_ite, iev_hI, iev_hP, iev_hmlen, sev_ite, sev_slit, sev_sof, sev_svar, TV.ev, SV.ev, CV.ev, List.map_cons, List.map_nil, Res.hl, cpTV, Cp.sv, Ck.cv, cpSVs, Cp.len, Ck.len, newHs_zero, newHs_one, roots_ne, cmg0, cmg1, cmg2, cmg3, cmg4, cmg5, cmg6, adr0, adr1, cmr2, cmr3, adr5, adr6, adr7, rsl, rsi]
    have evs : Value.slice (slP (ρ.i 7) 0) (ρ.i 8).toNat (ρ.i 9).toNat = sl := by rw [v7, v8, v9, Int.toNat_natCast, Int.toNat_natCast, hsl]
    have keepL : ∀ q : Env, Agree 19 ρ q → LogAt (q.h 12) pa dp S.LA S.bA ∧ LogAt (q.h 13) pb dp S.LB S.bB ∧ RowsR (q.h 14) (CV.ev q (.sl (.var 7) (.lit 0) (.var 8) (.var 9))) S.recs ∧ bev q (.bvar 10) = S.over ∧ DiskAt (q.h 15) dp D := by
      intro q hg
      refine ⟨by rw [hg.h 12 (by omega), w12]; exact hIn.la, by rw [hg.h 13 (by omega), w13]; exact hIn.lb, ?_, by rw [bev_bvar, hg.b 10 (by omega), b10], by rw [hg.h 15 (by omega), w15]; exact hD⟩
      show RowsR (q.h 14) (.slice (slP (q.i 7) 0) (q.i 8).toNat (q.i 9).toNat) _
      rw [hg.h 14 (by omega), hg.i 7 (by omega), hg.i 8 (by omega), hg.i 9 (by omega), w14, evs]
      exact hIn.rows
    have same : ∀ (q : Env) (e : Int) (rv : E) (t : Mem), Agree 19 ρ q → compR D S rows = ⟨e, D, S⟩ → iev q rv = e → postOf cmpS [.pointer (some ⟨a, 0, none⟩), .slice (slP x y) us.length c] [H, HD] [R, RA, RG] q (.blk 0 [.hptr (.var 5) (.lit 0), .hptr (.var 6) (.lit 0), .sl (.var 7) (.lit 0) (.var 8) (.var 9), .bool (.bvar 10)] 101 :: .hp 12 [] [.var 5] [.var 11] :: .hp 13 [] [.var 6] [.var 11] :: .hp 14 [] [.var 7] [] :: .hp 15 [] [.var 11] [] :: t) (.sv (.one (.int .i64 rv))) := by
      intro q e rv t hg he hrv
      obtain ⟨k1, k1', k2, k3, k4⟩ := keepL q hg
      exact fin0 q 13 14 15 _ _ _ _ _ _ _ _ _ _ _ _ _ _ rv t hg (by rw [he]; exact ⟨rfl, rfl⟩) (by rw [he]; exact k1') (by rw [he]; exact k2) (by rw [he]; exact k3) (by rw [he]; exact k4) (by rw [he]; exact hrv)
    have hp0 : Value.pointer (slP (ρ.i 0) 0) = .pointer (some ⟨a, 0, none⟩) := by rw [v0, ptr0]
    have hv0 : Value.slice (slP (ρ.i 1) (ρ.i 2)) (ρ.i 3).toNat (ρ.i 4).toNat = .slice (slP x y) us.length c := by rw [v1, v2, v3, v4, Int.toNat_natCast, Int.toNat_natCast]
    have hc0 : (sHl a pa pb sl S.over).cell a 0 = some pa := by unfold sHl; rw [Hl.one_cell]; rfl
    have hc1 : (sHl a pa pb sl S.over).cell a 1 = some pb := by unfold sHl; rw [Hl.one_cell]; rfl
    have hc3 : (sHl a pa pb sl S.over).cell a 3 = some (.bool S.over) := by unfold sHl; rw [Hl.one_cell]; rfl
    have e0' : ∀ q : Env, Agree 19 ρ q → Hl.one (q.i 0).toNat (.cells #[Value.pointer (slP (q.i 5) 0), Value.pointer (slP (q.i 6) 0), Value.slice (slP (q.i 7) 0) (q.i 8).toNat (q.i 9).toNat, Value.bool (bev q (.bvar 10))] 101 (0, 0)) = sHl a pa pb sl S.over := fun q hg => by
      rw [bev_bvar, hg.i 0 (by omega), hg.i 5 (by omega), hg.i 6 (by omega), hg.i 7 (by omega), hg.i 8 (by omega), hg.i 9 (by omega), hg.b 10 (by omega)]
      exact e0
    rw [hp0, hv0, e0' ρ (Agree.refl _ _), w16, w17]
    refine ⟨⟨_, _, a, S.over, _, R, RA, rows, rfl, rfl, rfl, hc3, hB, hlen, hrow⟩, fun q1 g1 ⟨F1, hp1, hF1, hn1⟩ => ?_⟩
    obtain ⟨u1, e1, hv1, hE1, hO1⟩ := ready_post hc3 hB hp1
    simp only [Value.tuple.injEq, Array.mk.injEq, List.cons.injEq, Value.int.injEq, true_and, and_true] at hv1
    obtain ⟨eu, ee⟩ := hv1
    have hn19 : -1 ≤ q1.i 19 ∧ 0 ≤ q1.i 20 ∧ 0 ≤ q1.i 21 ∧ 0 ≤ q1.i 22 := hn1.1
    refine ⟨fun h23 => same q1 (q1.i 23) _ _ g1 ?_ (iev_var _ _), fun h23 => ?_⟩
    · rw [ee] at h23 ⊢
      unfold compR
      cases ho : S.over with
      | true => rw [if_pos rfl, hE1.1 ho]
      | false =>
        rw [if_neg (by simp)]
        by_cases hk : packOk rows
        · exact absurd (hE1.2.1 ho hk) h23
        · rw [if_pos hk, hE1.2.2 ho hk]
    have he0 : e1 = 0 := by rw [← ee]; exact h23
    have ho : ¬ S.over = true := fun h => by have := hE1.1 h; omega
    have hof : S.over = false := Bool.eq_false_iff.2 ho
    have hk : packOk rows := Classical.byContradiction fun h => by have := hE1.2.2 hof h; omega
    have hOw : OwB (q1.h 19) 5 (.slice (slP (q1.i 19) (q1.i 20)) (q1.i 21).toNat (q1.i 22).toNat) (packB rows) := by rw [hF1 trivial, eu]; exact hO1 he0
    have h21 : q1.i 21 = (packB rows).length := (hOw.rd.at hn19.1 hn19.2.1 hn19.2.2.1).1
    have hpb' : ∀ q : Env, Agree 19 ρ q → Value.pointer (slP (q.i 6) 0) = pb := fun q hg => by rw [hg.i 6 (by omega), v6, eb]
    have kB : ∀ q : Env, Agree 19 ρ q → LogAt (q.h 13) pb dp S.LB S.bB := fun q hg => (keepL q hg).2.1
    rw [hpb' q1 g1]
    refine ⟨hn19.2.2.1, room_pre (kB q1 g1).rd hbB, fun q2 g2 ⟨F2, hp2, _⟩ => ?_⟩
    have G2 : Agree 19 ρ q2 := g1.trans (g2.mono (by omega))
    have h24 : q2.i 24 = S.LB.most - S.bB.length := room_of (room_post (kB q1 g1).rd hp2)
    rw [hpb' q2 G2]
    refine ⟨bytes_pre (kB q2 G2).rd hbB, fun q3 g3 ⟨F3, hp3, hF3, hn3⟩ => ?_⟩
    have G3 : Agree 19 ρ q3 := G2.trans (g3.mono (by omega))
    have hO3 := bytes_post (kB q2 G2).rd hp3
    have hn25 : -1 ≤ q3.i 25 ∧ 0 ≤ q3.i 26 ∧ 0 ≤ q3.i 27 ∧ 0 ≤ q3.i 28 := hn3.1
    have h27 : q3.i 27 = S.bB.length := (hO3.rd.at hn25.1 hn25.2.1 hn25.2.2.1).1
    have hmost : -9223372036854775808 ≤ S.LB.most ∧ S.LB.most ≤ 9223372036854775807 := by obtain ⟨_, ⟨_, _, hLi⟩, _⟩ := hIn.lb.rd; have := hLi.1.most; omega
    have hw : IntKind.i64.wrap (q3.i 24 + q3.i 27) = S.LB.most := by rw [g3.i 24 (by omega), h24, h27, show S.LB.most - (S.bB.length : Int) + S.bB.length = S.LB.most by omega]; exact wrap_i64 (by omega) (by omega)
    have A13 : Agree 24 q1 q3 := g2.trans (g3.mono (by omega))
    refine ⟨hn25.2.2.1, fun hlt => same q3 4 _ _ G3 ?_ (iev_lit _ _), fun hge => ?_⟩
    · rw [hw, A13.i 21 (by omega), h21] at hlt
      unfold compR
      rw [if_neg ho, if_neg (fun h => h hk), if_pos hlt]
    rw [hw, A13.i 21 (by omega), h21] at hge
    have hAdd : compR D S rows = compD S rows (renewR D (genI S.LA) S.LB S.bB (packB rows)) := by
      unfold compR
      rw [if_neg ho, if_neg (fun h => h hk), if_neg hge]
    have hRd3 : RdW (q3.h 19) (.slice (slP (q3.i 19) (q3.i 20)) (q3.i 21).toNat (q3.i 22).toNat) (packB rows) := by
      rw [A13.h 19 (by omega), A13.i 19 (by omega), A13.i 20 (by omega), A13.i 21 (by omega), A13.i 22 (by omega)]
      exact hOw.rd.w
    obtain ⟨k12, k13, _, _, kD3⟩ := keepL q3 G3
    rw [show Value.pointer (slP (q3.i 0) 0) = .pointer (some ⟨a, 0, none⟩) by rw [G3.i 0 (by omega), v0, ptr0], e0' q3 G3, G3.h 18 (by omega), w18]
    refine ⟨⟨a, pa, pb, _, q3.h 13, q3.h 15, _, q3.h 12, q3.h 19, RG, g, dp, S.LA, S.bA, S.LB, S.bB, D, packB rows, rfl, rfl, rfl, hc0, hc1, k12.rd, k13, kD3, hRd3, hG, hs0, hs1, hs2, hs3, hbB⟩, fun q4 g4 ⟨F4, hp4, _⟩ => ?_⟩
    obtain ⟨HB4, HD4, hK, hD4, hB4, hE4⟩ := hp4 a pa pb _ _ _ _ _ _ _ g dp S.LA S.bA S.LB S.bB D (packB rows) rfl rfl rfl hc0 hc1 k12.rd k13 kD3 hRd3 hG
    have hK : [q4.h 29, q4.h 30] = [HB4, HD4] := hK
    simp only [List.cons.injEq, and_true] at hK
    obtain ⟨rfl, rfl⟩ := hK
    generalize hr : renewR D (genI S.LA) S.LB S.bB (packB rows) = r at hAdd hD4 hB4 hE4
    have eN : ¬ numC r.e = 0 → compR D S rows = ⟨numC r.e, r.D, ⟨S.LA, S.bA, r.L, r.bs, S.recs, if r.e ≠ 0 ∧ gi r.e = gLost then true else S.over⟩⟩ := fun h => by rw [hAdd]; unfold compD; rw [if_neg h]
    have eZ : numC r.e = 0 → compR D S rows = ⟨0, r.D, ⟨r.L, r.bs, S.LA, S.bA, rows, S.over⟩⟩ := fun h => by rw [hAdd]; unfold compD; rw [if_pos h]
    have G4 : Agree 19 ρ q4 := G3.trans (g4.mono (by omega))
    have cL : RG.cell (Int.toNat 0) (Int.toNat 0) = some (gv g gLost) := hG.cell gLost (Or.inl rfl)
    rw [G4.h 18 (by omega), w18, cL]
    refine ⟨rfl, ⟨_, _, RG, g, r.e, gLost, rfl, rfl, hG, hE4, Or.inl rfl, rfl⟩, fun q6 g6 ⟨F6, hp6, _⟩ => ?_⟩
    have r6 := is_res hG hE4 (Or.inl rfl) hp6
    rw [r6]
    have G6 : Agree 19 ρ q6 := G4.trans (g6.mono (by omega))
    have hE6 : ErrAt g (q6.v 29) r.e := by rw [g6.v 29 (by omega)]; exact hE4
    have num : ∀ (q7 : Env), Agree 33 q6 q7 → (∃ F, numberE.post [q6.v 29] [] [RG] (.int .i64 (q7.i 33)) [] F ∧ (cpRoots 0 [Cp.one (Ck.int .i64)] ≠ [] → q7.h 33 = F) ∧ cpNorms 33 [Cp.one (Ck.int .i64)] q7) → q7.i 33 = numC r.e ∧ Agree 19 ρ q7 ∧ Agree 32 q4 q7 := by
      intro q7 g7 ⟨F7, ⟨e7, R7, x1, x2, h7⟩, _⟩
      simp only [List.cons.injEq, and_true] at x1 x2
      subst x1 x2
      have := h7 g r.e hG hE6
      exact ⟨by simpa using this, G6.trans (g7.mono (by omega)), g6.trans (g7.mono (by omega))⟩
    rw [G6.h 18 (by omega), w18]
    refine ⟨fun hcl => ⟨⟨_, RG, g, r.e, rfl, rfl, hG, hE6⟩, fun q7 g7 hq7 => ?_⟩, fun hcl => ⟨⟨_, RG, g, r.e, rfl, rfl, hG, hE6⟩, fun q7 g7 hq7 => ?_⟩⟩
    · obtain ⟨hn33, G7, G47⟩ := num q7 g7 hq7
      have hnz : ¬ numC r.e = 0 := by
        unfold numC
        rw [if_neg hcl.1, if_neg (by rw [hcl.2]; decide), if_neg (by rw [hcl.2]; decide)]
        decide
      refine ⟨fun _ => ?_, fun h => absurd (hn33.symm.trans h) hnz⟩
      refine fin0 q7 29 14 30 _ _ _ _ _ _ _ _ _ _ _ _ (.sl (.var 7) (.lit 0) (.var 8) (.var 9)) _ _ _ G7 ?_ ?_ ?_ ?_ ?_ ?_
      · rw [eN hnz]; exact ⟨rfl, rfl⟩
      · rw [eN hnz, G47.h 29 (by omega)]; exact hB4
      · rw [eN hnz]; exact (keepL q7 G7).2.2.1
      · rw [eN hnz]
        show true = (if _ then true else S.over)
        rw [if_pos hcl]
      · rw [eN hnz, G47.h 30 (by omega)]; exact hD4
      · rw [eN hnz, iev_var, hn33]
    · obtain ⟨hn33, G7, G47⟩ := num q7 g7 hq7
      refine ⟨fun hnz => ?_, fun h33 => ?_⟩
      · have hnz : ¬ numC r.e = 0 := fun h => hnz (hn33.trans h)
        refine fin0 q7 29 14 30 _ _ _ _ _ _ _ _ _ _ _ _ (.sl (.var 7) (.lit 0) (.var 8) (.var 9)) _ _ _ G7 ?_ ?_ ?_ ?_ ?_ ?_
        · rw [eN hnz]; exact ⟨rfl, rfl⟩
        · rw [eN hnz, G47.h 29 (by omega)]; exact hB4
        · rw [eN hnz]; exact (keepL q7 G7).2.2.1
        · rw [eN hnz, (keepL q7 G7).2.2.2.1]
          show S.over = (if _ then true else S.over)
          rw [if_neg hcl]
        · rw [eN hnz, G47.h 30 (by omega)]; exact hD4
        · rw [eN hnz, iev_var, hn33]
      · clear num
        have hz : numC r.e = 0 := hn33.symm.trans h33
        have eR := eZ hz
        rw [G7.i 3 (by omega), v3]
        refine ⟨by omega, ⟨0, rfl, Nat.zero_le _, Int.le_refl (-1), Int.le_refl 0, Int.le_refl 0, ?_, RowsR.nil _⟩, fun q8 g8 ⟨k, ek, hkl, x61, x62, x63, b65, hRk⟩ => ?_⟩
        · show bev q7 (.bvar 10) = false
          rw [bev_bvar, G7.b 10 (by omega), b10, hof]
        have G8 : Agree 19 ρ q8 := G7.trans (g8.mono (by omega))
        have h62 : q8.i 62 = k := by
          have := (hRk.at x61 x62).1
          rw [List.length_take] at this
          omega
        rw [G8.i 1 (by omega), G8.i 2 (by omega), G8.i 3 (by omega), G8.h 16 (by omega), G8.h 17 (by omega), v1, v2, v3, w16, w17, ek]
        refine ⟨fun hlt => ?_, fun hge => ?_⟩
        · have hkr : k < rows.length := by omega
          have hrk : rows[k]? = some rows[k] := List.getElem?_eq_getElem hkr
          have hu : us[k]? = some us[k] := List.getElem?_eq_getElem (by omega)
          obtain ⟨hx0, hc⟩ := hcell k _ hu
          have hRr := hrd k _ _ hu hrk
          have hsl : ∃ a l c, us[k] = Value.slice a l c := (RdW.parts hRr).1
          have hck : R.cell x.toNat (y + (k : Int)).toNat = some us[k] := by rw [show (y + (k : Int)).toNat = y.toNat + k by omega]; exact hc
          rw [hck, sl_parts hsl]
          refine ⟨hx0, hy, by omega, by obtain ⟨_, _, _, e⟩ := hsl; rw [e]; rfl, ⟨_, _, RA, rfl, rfl, hRr, Nat.le_trans (hk _ (List.getElem_mem _)) (by decide)⟩, fun q9 g9 ⟨F9, ⟨u9, bs9, R9, x1, x2, hR9, hO9⟩, hF9, hn9⟩ q10 g10 _ q11 g11 ⟨e11, hd11⟩ => ?_⟩
          simp only [List.cons.injEq, and_true] at x1 x2
          subst x1 x2
          obtain rfl := hRr.uniq hR9
          rw [← hF9 trivial] at hO9
          have hn9 : -1 ≤ q9.i 66 ∧ 0 ≤ q9.i 67 ∧ 0 ≤ q9.i 68 ∧ 0 ≤ q9.i 69 := hn9.1
          have G10 : Agree 66 q8 q10 := g9.trans (g10.mono (by omega))
          have G11 : Agree 66 q8 q11 := G10.trans (g11.mono (by omega))
          have G9 : Agree 70 q9 q11 := g10.trans (g11.mono (by omega))
          have hu9 : RowR (q10.h 66) none (.slice (slP (q11.i 66) (q11.i 67)) (q11.i 68).toNat (q11.i 69).toNat) rows[k] := by
            rw [g10.h 66 (by omega), G9.i 66 (by omega), G9.i 67 (by omega), G9.i 68 (by omega), G9.i 69 (by omega)]
            exact RowR.of hO9.rd.w hn9.1 hn9.2.1
          rw [e11, G10.h 64 (by omega), G11.i 61 (by omega), G11.i 62 (by omega), G11.i 63 (by omega)]
          rw [G10.h 64 (by omega)] at hd11
          have hpre : ∃ xs, OwnsH ((q8.h 64).un (q10.h 66)) 46 1 (.slice (slP (q8.i 61) 0) (q8.i 62).toNat (q8.i 63).toNat) (q8.i 62).toNat xs := by
            obtain ⟨us', ho', _⟩ := hRk
            rw [show (q8.i 62).toNat = (rows.take k).length by rw [List.length_take]; omega] at ho' ⊢
            exact ⟨us', ho'.mono (Hl.un_left _ _)⟩
          refine ⟨⟨hpre, x62, by unfold maxLen; omega, by omega⟩, fun q12 g12 ⟨a1, a2, happ, hkp, _, hnw⟩ => ?_⟩
          have G12 : Agree 66 q8 q12 := G11.trans (g12.mono (by omega))
          have hrows := rowsR_app hRk x61 x62 hd11 hu9 a1 happ hkp hnw
          have e62 : q12.i 62 + 1 = q8.i 62 + 1 := by rw [G12.i 62 (by omega)]
          have e60 : q12.i 60 = k := by rw [G12.i 60 (by omega), ek]
          have w60 : IntKind.i64.wrap (q12.i 60 + 1) = (k : Int) + 1 := by rw [e60]; exact wrap_i64 (by omega) (by omega)
          refine ⟨⟨k + 1, ?_, by omega, a1, ?_, a2, ?_, ?_⟩, ?_⟩
          · show IntKind.i64.wrap (q12.i 60 + 1) = _
            rw [w60]; rfl
          · show 0 ≤ q12.i 62 + 1
            omega
          · show q12.b 65 = false
            rw [G12.b 65 (by omega)]; exact b65
          · show RowsR (q12.h 72) (.slice (slP (q12.i 72) 0) (q12.i 62 + 1).toNat (q12.i 73).toNat) _
            rw [e62, List.take_add_one, hrk, Option.toList_some]; exact hrows
          · show ((rows.length : Int) - IntKind.i64.wrap (q12.i 60 + 1)).toNat < _
            rw [w60]; omega
        · have hke : k = rows.length := by omega
          subst hke
          rw [List.take_length] at hRk
          refine fin1 q8 29 64 30 _ _ _ _ _ _ _ _ _ _ _ _ (.sl (.var 61) (.lit 0) (.var 62) (.var 63)) _ _ _ G8 ?_ ?_ ?_ ?_ ?_ ?_
          · rw [eR]; exact ⟨rfl, rfl⟩
          · rw [eR, g8.h 29 (by omega), G47.h 29 (by omega)]; exact hB4
          · rw [eR]; exact hRk
          · rw [bev_bvar, b65, eR]; exact hof.symm
          · rw [eR, g8.h 30 (by omega), G47.h 30 (by omega)]; exact hD4
          · rw [eR, iev_lit]
end Go.Proofs.YtomdimlnggpgbaaGreatDoor
namespace Go.Proofs.YtomdimlnggpgbaaGreatDoor
open Go Go.Sx Go.Pk
open Go.Proofs.YtomdimlnggpgbaaGreatDoor.D hiding envI noLoops numS
theorem RowsR.b {F : Hl} {v : Value} {rows : List (List Int)} (h : RowsR F v rows) : RowsB F F v rows := by
  obtain ⟨rx, rc, hrx, rfl⟩ := h.rep
  obtain ⟨us, ho, hr⟩ := id h
  have hul := RowsR.len ho
  refine ⟨us, rx, 0, rc, by rw [hul], Int.le_refl _, hul, fun j u hu => ?_, fun j u r hu hrr => (hr j u r hu hrr).rd⟩
  have hj : j < rows.length := by have := (List.getElem?_eq_some_iff.1 hu).1; omega
  have := OwnsH.cellAt (l := (rows.length : Int)) (c := (rc : Int)) (by rw [Int.toNat_natCast, Int.toNat_natCast]; exact ho) hrx hj
  exact ⟨this.1, by rw [Int.toNat_zero, Nat.zero_add, this.2, hu]⟩
def rsameS : Sx.Spec where
  fn := 19
  own := []
  rd := [0, 1]
  res := [.one .bool]
  pre := fun xs Hs Rs => ∃ a b R1 R2 ra rb, xs = [a, b] ∧ Rs = [R1, R2] ∧ RowsB R1 R1 a ra ∧ RowsB R2 R2 b rb ∧ ra.length ≤ 1000000000
  post := fun xs Hs Rs v Hs' F => ∃ a b R1 R2 ra rb z, xs = [a, b] ∧ Rs = [R1, R2] ∧ RowsB R1 R1 a ra ∧ RowsB R2 R2 b rb ∧ v = .bool z ∧ (ra = rb → z = true)
def rsameNd : Nd := .and (.e (.le (.lit 0) (.var 2))) (.and (.e (.le (.lit 0) (.var 6))) (.and (.imp (.not (.eq (.var 2) (.var 6))) (.post [.ro 8 [.var 0] true, .ro 9 [.var 4] true] (.sv (.one (.bool .ff))))) (.imp (.eq (.var 2) (.var 6)) (.and (.inv 0 [⟨50, 0, .int .i64 (.lit 0)⟩] []) (.havoc 0 0 10 (.and (.imp (.lt (.var 50) (.var 2)) (.and (.e (.le (.lit 0) (.var 0))) (.and (.e (.le (.lit 0) (.var 1))) (.and (.e (.le (.lit 0) (.var 50))) (.and (.e (.his 8 (.var 0) (.add (.var 1) (.var 50)) 0 .slice)) (.and (.e (.or (.eq (.hP 8 (.var 0) (.add (.var 1) (.var 50)) 0 0) (.lit (-1))) (.or (.eq (.hP 8 (.var 0) (.add (.var 1) (.var 50)) 0 2) (.lit 0)) (.and (.le (.lit 0) (.hP 8 (.var 0) (.add (.var 1) (.var 50)) 0 0)) (.and (.le (.lit 0) (.hP 8 (.var 0) (.add (.var 1) (.var 50)) 0 1)) (.hby 8 (.hP 8 (.var 0) (.add (.var 1) (.var 50)) 0 0) (.hP 8 (.var 0) (.add (.var 1) (.var 50)) 0 1) (.hP 8 (.var 0) (.add (.var 1) (.var 50)) 0 2))))))) (.and (.e (.le (.lit 0) (.var 4))) (.and (.e (.le (.lit 0) (.var 5))) (.and (.e (.lt (.var 50) (.var 6))) (.and (.e (.his 9 (.var 4) (.add (.var 5) (.var 50)) 0 .slice)) (.and (.e (.or (.eq (.hP 9 (.var 4) (.add (.var 5) (.var 50)) 0 0) (.lit (-1))) (.or (.eq (.hP 9 (.var 4) (.add (.var 5) (.var 50)) 0 2) (.lit 0)) (.and (.le (.lit 0) (.hP 9 (.var 4) (.add (.var 5) (.var 50)) 0 0)) (.and (.le (.lit 0) (.hP 9 (.var 4) (.add (.var 5) (.var 50)) 0 1)) (.hby 9 (.hP 9 (.var 4) (.add (.var 5) (.var 50)) 0 0) (.hP 9 (.var 4) (.add (.var 5) (.var 50)) 0 1) (.hP 9 (.var 4) (.add (.var 5) (.var 50)) 0 2))))))) (.and (.imp (.not (.seq (.ite (.eq (.hP 8 (.var 0) (.add (.var 1) (.var 50)) 0 0) (.lit (-1))) (.slit ⟨#[]⟩) (.sof 8 (.hP 8 (.var 0) (.add (.var 1) (.var 50)) 0 0) (.hP 8 (.var 0) (.add (.var 1) (.var 50)) 0 1) (.hP 8 (.var 0) (.add (.var 1) (.var 50)) 0 2))) (.ite (.eq (.hP 9 (.var 4) (.add (.var 5) (.var 50)) 0 0) (.lit (-1))) (.slit ⟨#[]⟩) (.sof 9 (.hP 9 (.var 4) (.add (.var 5) (.var 50)) 0 0) (.hP 9 (.var 4) (.add (.var 5) (.var 50)) 0 1) (.hP 9 (.var 4) (.add (.var 5) (.var 50)) 0 2))))) (.post [.ro 8 [.var 0] true, .ro 9 [.var 4] true] (.sv (.one (.bool .ff))))) (.imp (.seq (.ite (.eq (.hP 8 (.var 0) (.add (.var 1) (.var 50)) 0 0) (.lit (-1))) (.slit ⟨#[]⟩) (.sof 8 (.hP 8 (.var 0) (.add (.var 1) (.var 50)) 0 0) (.hP 8 (.var 0) (.add (.var 1) (.var 50)) 0 1) (.hP 8 (.var 0) (.add (.var 1) (.var 50)) 0 2))) (.ite (.eq (.hP 9 (.var 4) (.add (.var 5) (.var 50)) 0 0) (.lit (-1))) (.slit ⟨#[]⟩) (.sof 9 (.hP 9 (.var 4) (.add (.var 5) (.var 50)) 0 0) (.hP 9 (.var 4) (.add (.var 5) (.var 50)) 0 1) (.hP 9 (.var 4) (.add (.var 5) (.var 50)) 0 2)))) (.back 0 0 [⟨50, 0, .int .i64 (.wrap .i64 (.add (.var 50) (.lit 1)))⟩] [])))))))))))))) (.imp (.not (.lt (.var 50) (.var 2))) (.post [.ro 8 [.var 0] true, .ro 9 [.var 4] true] (.sv (.one (.bool .tt)))))))))))
def rsameW : Walk Tryz.prog [] rsameS.fn where
  Λ := fun p => if lp0 p then some ⟨0, [(5, TI .i64 (.var 50))], [], 60⟩ else none
  args := [.sv (.one (.sl (.var 0) (.var 1) (.var 2) (.var 3))), .sv (.one (.sl (.var 4) (.var 5) (.var 6) (.var 7)))]
  mem := [.ro 8 [.var 0] true, .ro 9 [.var 4] true]
  nv := 10
  nd := rsameNd
  ok := by kernel_rfl
theorem rsameS_ok : rsameS.OK Tryz.prog := by
  refine Spec.of_fn (Γ := []) (fun _ h => by cases h) ?_
  rintro xs Hs Rs hl1 hl2 ⟨a, b, R1, R2, ra, rb, rfl, rfl, h1, h2, hlen⟩
  have e0 : Hs = [] := List.length_eq_zero_iff.1 hl1
  subst e0
  obtain ⟨us, x, y, c, rfl, hy, hul, hcell, hrd⟩ := id h1
  obtain ⟨us2, x2, y2, c2, rfl, hy2, hul2, hcell2, hrd2⟩ := id h2
  refine ⟨rsameW, envI [x, y, us.length, c, x2, y2, us2.length, c2] false [Hl.none, Hl.none, Hl.none, Hl.none, Hl.none, Hl.none, Hl.none, Hl.none, R1, R2], fun _ q => ∃ k : Nat, q.i 50 = k ∧ k ≤ ra.length, fun _ q => (ra.length - q.i 50).toNat, ?_, ⟨?_, ?_, ?_, ?_⟩, (fun _ h => nomatch h), ?_⟩
  · show [Value.slice (slP x y) ((us.length : Int)).toNat ((c : Int)).toNat, Value.slice (slP x2 y2) ((us2.length : Int)).toNat ((c2 : Int)).toNat] = _
    simp only [Int.toNat_natCast]
  · intro r hr ho; simp [rsameW] at hr; rcases hr with rfl | rfl <;> cases ho
  · intro r hr ho; simp [rsameW] at hr
    rcases hr with rfl | rfl
    · exact ⟨R1, by simp, Hl.le_refl _⟩
    · exact ⟨R2, by simp, Hl.le_refl _⟩
  · simp [rsameW, Res.own]
  · intro r hr; simp [rsameW] at hr; rcases hr with rfl | rfl <;> trivial
  · show Nd.holds _ _ _ rsameNd
    generalize hρ : envI [x, y, us.length, c, x2, y2, us2.length, c2] false [Hl.none, Hl.none, Hl.none, Hl.none, Hl.none, Hl.none, Hl.none, Hl.none, R1, R2] = ρ
    have v0 : ρ.i 0 = x := by rw [← hρ]; rfl
    have v1 : ρ.i 1 = y := by rw [← hρ]; rfl
    have v2 : ρ.i 2 = us.length := by rw [← hρ]; rfl
    have v4 : ρ.i 4 = x2 := by rw [← hρ]; rfl
    have v5 : ρ.i 5 = y2 := by rw [← hρ]; rfl
    have v6 : ρ.i 6 = us2.length := by rw [← hρ]; rfl
    have w8 : ρ.h 8 = R1 := by rw [← hρ]; rfl
    have w9 : ρ.h 9 = R2 := by rw [← hρ]; rfl
    clear hρ
    have out : ∀ (q : Env) (mem : Mem) (e : E), (ra = rb → bev q e = true) → postOf rsameS [.slice (slP x y) us.length c, .slice (slP x2 y2) us2.length c2] [] [R1, R2] q mem (.sv (.one (.bool e))) := by
      intro q mem e he _
      exact ⟨[], [], rfl, rfl, ⟨⟨fun _ => 0, fun _ => bev q e, fun _ => .empty, fun _ => .tuple #[], fun _ => Hl.none⟩, rfl, trivial, trivial⟩, _, _, R1, R2, ra, rb, bev q e, rfl, rfl, h1, h2, rfl, he⟩
    unfold rsameNd
    simp only [Nd.holds, X.pre, X.rel, X.n, Src.ok, Src.len, Src.vals, true_and, and_true, if_true, Nat.mul_one, Nat.add_zero, Nat.reduceAdd, List.length_cons, List.length_nil, bT_tt, bT_ff, bT_bvar, bT_not, bT_and, bT_or, bT_ite, bT_lt, bT_le, bT_eq, bT_beq, bT_seq, bT_hB, bT_his, bT_hby, bT_hism, bT_hks, iev_lit, iev_var, iev_add, iev_sub, iev_mul, iev_wrap, iev_ite, iev_hI, iev_hP, iev_hmlen, sev_ite, sev_slit, sev_sof, sev_svar, TV.ev, SV.ev, CV.ev, List.map_cons, List.map_nil, Res.hl]
    rw [v2, v6]
    refine ⟨by omega, by omega, fun hne => out _ _ _ fun h => absurd (by rw [hul, hul2, h]) hne, fun heq => ⟨⟨0, rfl, Nat.zero_le _⟩, fun q g ⟨k, ek, hk⟩ => ?_⟩⟩
    rw [g.i 0 (by omega), g.i 1 (by omega), g.i 2 (by omega), g.i 4 (by omega), g.i 5 (by omega), g.i 6 (by omega), g.h 8 (by omega), g.h 9 (by omega), v0, v1, v2, v4, v5, v6, w8, w9, ek]
    refine ⟨fun hlt => ?_, fun hge => out _ _ _ fun _ => bev_tt _⟩
    have hk1 : k < ra.length := by omega
    have hk2 : k < rb.length := by omega
    have hu : us[k]? = some us[k] := List.getElem?_eq_getElem (by omega)
    have hu2 : us2[k]? = some us2[k] := List.getElem?_eq_getElem (by omega)
    obtain ⟨hx0, hc⟩ := hcell k _ hu
    obtain ⟨hx2, hc2⟩ := hcell2 k _ hu2
    have r1 := hrd k _ _ hu (List.getElem?_eq_getElem hk1)
    have r2 := hrd2 k _ _ hu2 (List.getElem?_eq_getElem hk2)
    obtain ⟨⟨_, _, _, s1⟩, _, t1, q1⟩ := RdW.parts r1
    obtain ⟨⟨_, _, _, s2⟩, _, t2, q2⟩ := RdW.parts r2
    have hck : R1.cell x.toNat (y + (k : Int)).toNat = some us[k] := by rw [show (y + (k : Int)).toNat = y.toNat + k by omega]; exact hc
    have hck2 : R2.cell x2.toNat (y2 + (k : Int)).toNat = some us2[k] := by rw [show (y2 + (k : Int)).toNat = y2.toNat + k by omega]; exact hc2
    rw [hck, hck2]
    refine ⟨hx0, hy, by omega, by rw [s1]; rfl, t1, hx2, hy2, by omega, by rw [s2]; rfl, t2, fun hne => out _ _ _ fun h => ?_, fun _ => ⟨⟨k + 1, ?_, by omega⟩, ?_⟩⟩
    · have e : ra[k] = rb[k] := by
        have := congrArg (fun l => l[k]?) h
        rw [List.getElem?_eq_getElem hk1, List.getElem?_eq_getElem hk2] at this
        exact Option.some.inj this
      exact absurd (q1.trans ((congrArg bytesOf e).trans q2.symm)) hne
    · show IntKind.i64.wrap (q.i 50 + 1) = _
      rw [ek]; exact wrap_i64 (by omega) (by omega)
    · show ((ra.length : Int) - IntKind.i64.wrap (q.i 50 + 1)).toNat < _
      rw [ek, wrap_i64 (by omega) (by omega)]; omega
end Go.Proofs.YtomdimlnggpgbaaGreatDoor
namespace Go.Proofs.YtomdimlnggpgbaaGreatDoor
open Go Go.Sx Go.Pk
open Go.Proofs.YtomdimlnggpgbaaGreatDoor.D hiding envI noLoops numS
def soverS : Sx.Spec where
  fn := 23
  own := []
  rd := [0]
  res := [.one .bool]
  pre := fun xs Hs Rs => ∃ p R dp S, xs = [p] ∧ Rs = [R] ∧ StoreR R p dp S
  post := fun xs Hs Rs v Hs' F => ∀ p R dp S, xs = [p] → Rs = [R] → StoreR R p dp S → v = .bool S.over
def soverNd : Nd := .and (.e (.le (.lit 0) (.var 0))) (.and (.e (.his 1 (.var 0) (.lit 3) 0 .bool)) (.post [.ro 1 [.var 0] true] (.sv (.one (.bool (.hB 1 (.var 0) (.lit 3) 0))))))
def soverW : Walk Tryz.prog [] soverS.fn where
  Λ := noLoops
  args := [TP (.var 0) (.lit 0)]
  mem := [.ro 1 [.var 0] true]
  nv := 2
  nd := soverNd
  ok := by kernel_rfl
theorem soverS_ok : soverS.OK Tryz.prog := by
  refine Spec.of_fn (Γ := []) (fun _ h => by cases h) ?_
  rintro xs Hs Rs hl1 hl2 ⟨p, R, dp, S, rfl, rfl, hS⟩
  have e0 : Hs = [] := List.length_eq_zero_iff.1 hl1
  subst e0
  obtain ⟨a, pa, pb, sl, rfl, hr⟩ := id hS
  have hc : R.cell a 3 = some (.bool S.over) := by unfold Hl.cell; rw [hr.blk]; rfl
  refine ⟨soverW, envI [(a : Int)] false [Hl.none, R], fun _ _ => True, fun _ _ => 0, ?_, ⟨?_, ?_, ?_, ?_⟩, (fun _ h => nomatch h), ?_⟩
  · show [Value.pointer (slP (a : Int) 0)] = _; rw [ptr0]
  · intro r hr ho; simp [soverW] at hr; subst hr; cases ho
  · intro r hr ho; simp [soverW] at hr; subst hr; exact ⟨R, by simp, Hl.le_refl _⟩
  · simp [soverW]
  · intro r hr; simp [soverW] at hr; subst hr; trivial
  · show Nd.holds _ _ _ soverNd
    generalize hρ : envI [(a : Int)] false [Hl.none, R] = ρ
    have v0 : ρ.i 0 = a := by rw [← hρ]; rfl
    have w1 : ρ.h 1 = R := by rw [← hρ]; rfl
    clear hρ
    have t3 : Int.toNat 3 = 3 := rfl
    unfold soverNd
    simp only [Nd.holds, X.pre, X.rel, X.n, Src.ok, Src.len, Src.vals, true_and, and_true, if_true, Nat.mul_one, Nat.add_zero, Nat.reduceAdd, List.length_cons, List.length_nil, bT_tt, bT_ff, bT_bvar, bT_not, bT_and, bT_or, bT_ite, bT_lt, bT_le, bT_eq, bT_beq, bT_seq, bT_hB, bT_his, bT_hby, bT_hism, bT_hks, iev_lit, iev_var, iev_add, iev_sub, iev_mul, iev_wrap, iev_ite, iev_hI, iev_hP, iev_hmlen, sev_ite, sev_slit, sev_sof, sev_svar, TV.ev, SV.ev, CV.ev, List.map_cons, List.map_nil, Res.hl, t3]
    rw [v0, w1, Int.toNat_natCast, hc]
    refine ⟨by omega, rfl, fun _ => ⟨[], [], rfl, rfl, ⟨⟨fun _ => 0, fun _ => S.over, fun _ => .empty, fun _ => .tuple #[], fun _ => Hl.none⟩, ?_, trivial, trivial⟩, fun p' R' dp' S' e1 e2 h' => ?_⟩⟩
    · show Value.bool (bev ρ (.hB 1 (.var 0) (.lit 3) 0)) = .bool S.over
      show Value.bool (valB ((ρ.h 1).cell (ρ.i 0).toNat (Int.toNat 3))) = _
      rw [v0, w1, Int.toNat_natCast, t3, hc]; rfl
    · simp only [List.cons.injEq, and_true] at e1 e2
      subst e1 e2
      obtain ⟨_, rfl⟩ := hS.uniq h'
      show Value.bool (valB ((ρ.h 1).cell (ρ.i 0).toNat (Int.toNat 3))) = _
      rw [v0, w1, Int.toNat_natCast, t3, hc]; rfl
theorem cell_mono {R R' : Hl} (hl : R.le R') {b j : Nat} {v : Value} (h : R.cell b j = some v) : R'.cell b j = some v := by
  unfold Hl.cell at h ⊢
  cases hR : R b with
  | none => rw [hR] at h; cases h
  | some o => rw [hR] at h; rw [hl _ _ hR]; exact h
theorem rdW_mono {R R' : Hl} {v : Value} {bs : List Int} (h : RdW R v bs) (hl : R.le R') : RdW R' v bs := by
  obtain ⟨x, y, c, e, hy, h⟩ := h
  exact ⟨x, y, c, e, hy, h.imp id fun ⟨hx, h⟩ => ⟨hx, fun j z hz => cell_mono hl (h j z hz)⟩⟩
theorem RowsB.mono {R R' RA RA' : Hl} (hl : R.le R') (hl' : RA.le RA') {v : Value} {rows : List (List Int)} (h : RowsB R RA v rows) : RowsB R' RA' v rows := by
  obtain ⟨us, x, y, c, e, hy, hu, hc, hr⟩ := h
  refine ⟨us, x, y, c, e, hy, hu, fun j u hj => ⟨(hc j u hj).1, cell_mono hl (hc j u hj).2⟩, fun j u r h1 h2 => rdW_mono (hr j u r h1 h2) hl'⟩
def xsame0 : Sx.Spec where
  fn := 19
  own := []
  rd := [0, 1, 100]
  res := [.one .bool]
  pre := fun xs Hs Rs => ∃ a b R1 R2 R3 Rw ra rb, xs = [a, b] ∧ Rs = [R1, R2, R3] ∧ (Rw = R2 ∨ Rw = R3) ∧ RowsB R1 R1 a ra ∧ RowsB Rw R3 b rb ∧ ra.length ≤ 1000000000
  post := fun xs Hs Rs v Hs' F => ∃ a b R1 R2 R3 Rw ra rb z, xs = [a, b] ∧ Rs = [R1, R2, R3] ∧ (Rw = R2 ∨ Rw = R3) ∧ RowsB R1 R1 a ra ∧ RowsB Rw R3 b rb ∧ v = .bool z ∧ (ra = rb → z = true)
def xsameNd : Nd := .and (.e (.le (.lit 0) (.var 2))) (.and (.e (.le (.lit 0) (.var 6))) (.and (.imp (.not (.eq (.var 2) (.var 6))) (.post [.ro 10 [] true, .ro 8 [.var 0] true, .ro 9 [.var 4] false] (.sv (.one (.bool .ff))))) (.imp (.eq (.var 2) (.var 6)) (.and (.inv 0 [⟨50, 0, .int .i64 (.lit 0)⟩] []) (.havoc 0 0 11 (.and (.imp (.lt (.var 50) (.var 2)) (.and (.e (.le (.lit 0) (.var 0))) (.and (.e (.le (.lit 0) (.var 1))) (.and (.e (.le (.lit 0) (.var 50))) (.and (.e (.his 8 (.var 0) (.add (.var 1) (.var 50)) 0 .slice)) (.and (.e (.or (.eq (.hP 8 (.var 0) (.add (.var 1) (.var 50)) 0 0) (.lit (-1))) (.or (.eq (.hP 8 (.var 0) (.add (.var 1) (.var 50)) 0 2) (.lit 0)) (.and (.le (.lit 0) (.hP 8 (.var 0) (.add (.var 1) (.var 50)) 0 0)) (.and (.le (.lit 0) (.hP 8 (.var 0) (.add (.var 1) (.var 50)) 0 1)) (.hby 8 (.hP 8 (.var 0) (.add (.var 1) (.var 50)) 0 0) (.hP 8 (.var 0) (.add (.var 1) (.var 50)) 0 1) (.hP 8 (.var 0) (.add (.var 1) (.var 50)) 0 2))))))) (.and (.e (.le (.lit 0) (.var 4))) (.and (.e (.le (.lit 0) (.var 5))) (.and (.e (.lt (.var 50) (.var 6))) (.and (.e (.his 9 (.var 4) (.add (.var 5) (.var 50)) 0 .slice)) (.and (.e (.or (.eq (.hP 9 (.var 4) (.add (.var 5) (.var 50)) 0 0) (.lit (-1))) (.or (.eq (.hP 9 (.var 4) (.add (.var 5) (.var 50)) 0 2) (.lit 0)) (.and (.le (.lit 0) (.hP 9 (.var 4) (.add (.var 5) (.var 50)) 0 0)) (.and (.le (.lit 0) (.hP 9 (.var 4) (.add (.var 5) (.var 50)) 0 1)) (.hby 10 (.hP 9 (.var 4) (.add (.var 5) (.var 50)) 0 0) (.hP 9 (.var 4) (.add (.var 5) (.var 50)) 0 1) (.hP 9 (.var 4) (.add (.var 5) (.var 50)) 0 2))))))) (.and (.imp (.not (.seq (.ite (.eq (.hP 8 (.var 0) (.add (.var 1) (.var 50)) 0 0) (.lit (-1))) (.slit ⟨#[]⟩) (.sof 8 (.hP 8 (.var 0) (.add (.var 1) (.var 50)) 0 0) (.hP 8 (.var 0) (.add (.var 1) (.var 50)) 0 1) (.hP 8 (.var 0) (.add (.var 1) (.var 50)) 0 2))) (.ite (.eq (.hP 9 (.var 4) (.add (.var 5) (.var 50)) 0 0) (.lit (-1))) (.slit ⟨#[]⟩) (.sof 10 (.hP 9 (.var 4) (.add (.var 5) (.var 50)) 0 0) (.hP 9 (.var 4) (.add (.var 5) (.var 50)) 0 1) (.hP 9 (.var 4) (.add (.var 5) (.var 50)) 0 2))))) (.post [.ro 10 [] true, .ro 8 [.var 0] true, .ro 9 [.var 4] false] (.sv (.one (.bool .ff))))) (.imp (.seq (.ite (.eq (.hP 8 (.var 0) (.add (.var 1) (.var 50)) 0 0) (.lit (-1))) (.slit ⟨#[]⟩) (.sof 8 (.hP 8 (.var 0) (.add (.var 1) (.var 50)) 0 0) (.hP 8 (.var 0) (.add (.var 1) (.var 50)) 0 1) (.hP 8 (.var 0) (.add (.var 1) (.var 50)) 0 2))) (.ite (.eq (.hP 9 (.var 4) (.add (.var 5) (.var 50)) 0 0) (.lit (-1))) (.slit ⟨#[]⟩) (.sof 10 (.hP 9 (.var 4) (.add (.var 5) (.var 50)) 0 0) (.hP 9 (.var 4) (.add (.var 5) (.var 50)) 0 1) (.hP 9 (.var 4) (.add (.var 5) (.var 50)) 0 2)))) (.back 0 0 [⟨50, 0, .int .i64 (.wrap .i64 (.add (.var 50) (.lit 1)))⟩] [])))))))))))))) (.imp (.not (.lt (.var 50) (.var 2))) (.post [.ro 10 [] true, .ro 8 [.var 0] true, .ro 9 [.var 4] false] (.sv (.one (.bool .tt)))))))))))
def xsameW : Walk Tryz.prog [] xsame0.fn where
  Λ := fun p => if lp0 p then some ⟨0, [(5, TI .i64 (.var 50))], [], 60⟩ else none
  args := [.sv (.one (.sl (.var 0) (.var 1) (.var 2) (.var 3))), .sv (.one (.sl (.var 4) (.var 5) (.var 6) (.var 7)))]
  mem := [.ro 10 [] true, .ro 8 [.var 0] true, .ro 9 [.var 4] false]
  nv := 11
  nd := xsameNd
  ok := by kernel_rfl
theorem xsame0_ok : xsame0.OK Tryz.prog := by
  refine Spec.of_fn (Γ := []) (fun _ h => by cases h) ?_
  rintro xs Hs Rs hl1 hl2 ⟨a, b, R1, R2, R3, Rw, ra, rb, rfl, rfl, hw, h1, h2, hlen⟩
  have e0 : Hs = [] := List.length_eq_zero_iff.1 hl1
  subst e0
  obtain ⟨us, x, y, c, rfl, hy, hul, hcell, hrd⟩ := id h1
  obtain ⟨us2, x2, y2, c2, rfl, hy2, hul2, hcell2, hrd2⟩ := id h2
  refine ⟨xsameW, envI [x, y, us.length, c, x2, y2, us2.length, c2] false [Hl.none, Hl.none, Hl.none, Hl.none, Hl.none, Hl.none, Hl.none, Hl.none, R1, Rw, R3], fun _ q => ∃ k : Nat, q.i 50 = k ∧ k ≤ ra.length, fun _ q => (ra.length - q.i 50).toNat, ?_, ⟨?_, ?_, ?_, ?_⟩, (fun _ h => nomatch h), ?_⟩
  · show [Value.slice (slP x y) ((us.length : Int)).toNat ((c : Int)).toNat, Value.slice (slP x2 y2) ((us2.length : Int)).toNat ((c2 : Int)).toNat] = _
    simp only [Int.toNat_natCast]
  · intro r hr ho; simp [xsameW] at hr; rcases hr with rfl | rfl | rfl <;> cases ho
  · intro r hr ho; simp [xsameW] at hr
    rcases hr with rfl | rfl | rfl
    · exact ⟨R3, by simp, Hl.le_refl _⟩
    · exact ⟨R1, by simp, Hl.le_refl _⟩
    · exact ⟨Rw, by rcases hw with rfl | rfl <;> simp, Hl.le_refl _⟩
  · simp [xsameW, Res.own]
  · intro r hr; simp [xsameW] at hr; rcases hr with rfl | rfl | rfl <;> trivial
  · show Nd.holds _ _ _ xsameNd
    generalize hρ : envI [x, y, us.length, c, x2, y2, us2.length, c2] false [Hl.none, Hl.none, Hl.none, Hl.none, Hl.none, Hl.none, Hl.none, Hl.none, R1, Rw, R3] = ρ
    have v0 : ρ.i 0 = x := by rw [← hρ]; rfl
    have v1 : ρ.i 1 = y := by rw [← hρ]; rfl
    have v2 : ρ.i 2 = us.length := by rw [← hρ]; rfl
    have v4 : ρ.i 4 = x2 := by rw [← hρ]; rfl
    have v5 : ρ.i 5 = y2 := by rw [← hρ]; rfl
    have v6 : ρ.i 6 = us2.length := by rw [← hρ]; rfl
    have w8 : ρ.h 8 = R1 := by rw [← hρ]; rfl
    have w9 : ρ.h 9 = Rw := by rw [← hρ]; rfl
    have w10 : ρ.h 10 = R3 := by rw [← hρ]; rfl
    clear hρ
    have out : ∀ (q : Env) (mem : Mem) (e : E), (ra = rb → bev q e = true) → postOf xsame0 [.slice (slP x y) us.length c, .slice (slP x2 y2) us2.length c2] [] [R1, R2, R3] q mem (.sv (.one (.bool e))) := by
      intro q mem e he _
      exact ⟨[], [], rfl, rfl, ⟨⟨fun _ => 0, fun _ => bev q e, fun _ => .empty, fun _ => .tuple #[], fun _ => Hl.none⟩, rfl, trivial, trivial⟩, _, _, R1, R2, R3, Rw, ra, rb, bev q e, rfl, rfl, hw, h1, h2, rfl, he⟩
    unfold xsameNd
    simp only [Nd.holds, X.pre, X.rel, X.n, Src.ok, Src.len, Src.vals, true_and, and_true, if_true, Nat.mul_one, Nat.add_zero, Nat.reduceAdd, List.length_cons, List.length_nil, bT_tt, bT_ff, bT_bvar, bT_not, bT_and, bT_or, bT_ite, bT_lt, bT_le, bT_eq, bT_beq, bT_seq, bT_hB, bT_his, bT_hby, bT_hism, bT_hks, iev_lit, iev_var, iev_add, iev_sub, iev_mul, iev_wrap, iev_ite, iev_hI, iev_hP, iev_hmlen, sev_ite, sev_slit, sev_sof, sev_svar, TV.ev, SV.ev, CV.ev, List.map_cons, List.map_nil, Res.hl]
    rw [v2, v6]
    refine ⟨by omega, by omega, fun hne => out _ _ _ fun h => absurd (by rw [hul, hul2, h]) hne, fun heq => ⟨⟨0, rfl, Nat.zero_le _⟩, fun q g ⟨k, ek, hk⟩ => ?_⟩⟩
    rw [g.i 0 (by omega), g.i 1 (by omega), g.i 2 (by omega), g.i 4 (by omega), g.i 5 (by omega), g.i 6 (by omega), g.h 8 (by omega), g.h 9 (by omega), g.h 10 (by omega), v0, v1, v2, v4, v5, v6, w8, w9, w10, ek]
    refine ⟨fun hlt => ?_, fun hge => out _ _ _ fun _ => bev_tt _⟩
    have hk1 : k < ra.length := by omega
    have hk2 : k < rb.length := by omega
    have hu : us[k]? = some us[k] := List.getElem?_eq_getElem (by omega)
    have hu2 : us2[k]? = some us2[k] := List.getElem?_eq_getElem (by omega)
    obtain ⟨hx0, hc⟩ := hcell k _ hu
    obtain ⟨hx2, hc2⟩ := hcell2 k _ hu2
    have r1 := hrd k _ _ hu (List.getElem?_eq_getElem hk1)
    have r2 := hrd2 k _ _ hu2 (List.getElem?_eq_getElem hk2)
    obtain ⟨⟨_, _, _, s1⟩, _, t1, q1⟩ := RdW.parts r1
    obtain ⟨⟨_, _, _, s2⟩, _, t2, q2⟩ := RdW.parts r2
    have hck : R1.cell x.toNat (y + (k : Int)).toNat = some us[k] := by rw [show (y + (k : Int)).toNat = y.toNat + k by omega]; exact hc
    have hck2 : Rw.cell x2.toNat (y2 + (k : Int)).toNat = some us2[k] := by rw [show (y2 + (k : Int)).toNat = y2.toNat + k by omega]; exact hc2
    rw [hck, hck2]
    refine ⟨hx0, hy, by omega, by rw [s1]; rfl, t1, hx2, hy2, by omega, by rw [s2]; rfl, t2, fun hne => out _ _ _ fun h => ?_, fun _ => ⟨⟨k + 1, ?_, by omega⟩, ?_⟩⟩
    · have e : ra[k] = rb[k] := by
        have := congrArg (fun l => l[k]?) h
        rw [List.getElem?_eq_getElem hk1, List.getElem?_eq_getElem hk2] at this
        exact Option.some.inj this
      exact absurd (q1.trans ((congrArg bytesOf e).trans q2.symm)) hne
    · show IntKind.i64.wrap (q.i 50 + 1) = _
      rw [ek]; exact wrap_i64 (by omega) (by omega)
    · show ((ra.length : Int) - IntKind.i64.wrap (q.i 50 + 1)).toNat < _
      rw [ek, wrap_i64 (by omega) (by omega)]; omega
def xsameS : Sx.Spec where
  fn := 19
  own := []
  rd := [0, 1, 100]
  res := [.one .bool]
  pre := xsame0.pre
  post := fun xs Hs Rs v Hs' F => ∀ a b R1 R2 R3 Rw ra rb, xs = [a, b] → Rs = [R1, R2, R3] → (Rw = R2 ∨ Rw = R3) → RowsB R1 R1 a ra → RowsB Rw R3 b rb → ∃ z, v = .bool z ∧ (ra = rb → z = true)
theorem xsameS_ok : xsameS.OK Tryz.prog := by
  intro w xs Hs Rs hl1 hl2 hs1 hs2 hd1 hd2 hpre
  refine (xsame0_ok w xs Hs Rs hl1 hl2 hs1 hs2 hd1 hd2 hpre).mono ?_
  rintro e w' ⟨ρ, Hs', F, he, hn, ht, a, b, R1, R2, R3, Rw, ra, rb, z, rfl, rfl, hw, h1, h2, hv, hz⟩
  refine ⟨ρ, Hs', F, he, hn, ht, ?_⟩
  intro a' b' R1' R2' R3' Rw' ra' rb' e1 e2 hw' h1' h2'
  simp only [List.cons.injEq, and_true] at e1 e2
  obtain ⟨rfl, rfl⟩ := e1
  obtain ⟨rfl, rfl, rfl⟩ := e2
  obtain rfl := h1.uniq h1'
  have l2 : R2.le (Hl.all w) := fun k o h => hs2 _ (by simp) k o h
  have l3 : R3.le (Hl.all w) := fun k o h => hs2 _ (by simp) k o h
  have up : ∀ {X : Hl} {r : List (List Int)}, (X = R2 ∨ X = R3) → RowsB X R3 b r → RowsB (Hl.all w) (Hl.all w) b r := fun hx h => by
    rcases hx with rfl | rfl
    · exact h.mono l2 l3
    · exact h.mono l3 l3
  obtain rfl := (up hw h2).uniq (up hw' h2')
  exact ⟨z, hv, hz⟩
end Go.Proofs.YtomdimlnggpgbaaGreatDoor
namespace Go.Proofs.YtomdimlnggpgbaaGreatDoor
open Go Go.Sx Go.Pk
open Go.Proofs.YtomdimlnggpgbaaGreatDoor.D hiding envI noLoops numS
def both0 : Sx.Spec where
  fn := 16
  own := []
  rd := [0, 1, 100]
  res := [.one .sl]
  pre := fun xs Hs Rs => ∃ a b R1 R2 R3 Rw ra rb, xs = [a, b] ∧ Rs = [R1, R2, R3] ∧ (Rw = R1 ∨ Rw = R3) ∧ RowsB Rw R3 a ra ∧ RowsB R2 R3 b rb ∧ ra.length ≤ 1000000 ∧ rb.length ≤ 1000000
  post := fun xs Hs Rs v Hs' F => ∃ a b R1 R2 R3 Rw ra rb, xs = [a, b] ∧ Rs = [R1, R2, R3] ∧ (Rw = R1 ∨ Rw = R3) ∧ RowsB Rw R3 a ra ∧ RowsB R2 R3 b rb ∧ RowsB F R3 v (ra ++ rb)
def bothNd : Nd := .and (.pre (.app 10 46 1 24 (.sl (.lit (-1)) (.lit 0) (.lit 0) (.lit 0)) (.lit 0) .dead (.seg 8 (.var 0) (.var 1) (.var 2)))) (.ext (.app 10 46 1 24 (.sl (.lit (-1)) (.lit 0) (.lit 0) (.lit 0)) (.lit 0) .dead (.seg 8 (.var 0) (.var 1) (.var 2))) (.and (.pre (.app 12 46 1 24 (.sl (.var 10) (.lit 0) (.var 2) (.var 11)) (.var 2) (.hp 10 [] [.var 10] []) (.seg 9 (.var 4) (.var 5) (.var 6)))) (.ext (.app 12 46 1 24 (.sl (.var 10) (.lit 0) (.var 2) (.var 11)) (.var 2) (.hp 10 [] [.var 10] []) (.seg 9 (.var 4) (.var 5) (.var 6))) (.post [.ro 8 [.var 0] true, .ro 9 [.var 4] false, .hp 12 [10] [.var 12, .var 10] []] (.sv (.one (.sl (.var 12) (.lit 0) (.add (.var 2) (.var 6)) (.var 13))))))))
def bothW : Walk Tryz.prog [] both0.fn where
  Λ := noLoops
  args := [.sv (.one (.sl (.var 0) (.var 1) (.var 2) (.var 3))), .sv (.one (.sl (.var 4) (.var 5) (.var 6) (.var 7)))]
  mem := [.ro 8 [.var 0] true, .ro 9 [.var 4] false]
  nv := 10
  nd := bothNd
  ok := by kernel_rfl
theorem seg_ok {R : Hl} {x y : Int} {us : List Value} (hy : 0 ≤ y) (hc : ∀ (j : Nat) (u : Value), us[j]? = some u → 0 ≤ x ∧ R.cell x.toNat (y.toNat + j) = some u) (h1 : ∀ u ∈ us, u.oneCell' = true) :
    ((0 ≤ x ∧ 0 ≤ y ∧ 0 ≤ (us.length : Int) ∧ ∀ j, j < ((us.length : Int)).toNat → ∃ v, R.cell x.toNat (y.toNat + j) = some v ∧ v.oneCell' = true) ∨ (us.length : Int) = 0) ∧ segVals R x.toNat y.toNat ((us.length : Int)).toNat = us := by
  rw [Int.toNat_natCast]
  refine ⟨?_, ?_⟩
  · by_cases h0 : us.length = 0
    · exact Or.inr (by omega)
    · refine Or.inl ⟨(hc 0 us[0] (List.getElem?_eq_getElem (by omega))).1, hy, by omega, fun j hj => ?_⟩
      exact ⟨us[j], (hc j _ (List.getElem?_eq_getElem hj)).2, h1 _ (List.getElem_mem _)⟩
  · unfold segVals
    apply List.ext_getElem (by simp)
    intro j h1 h2
    rw [List.getElem_map, List.getElem_range, (hc j _ (List.getElem?_eq_getElem h2)).2]; rfl
theorem rows_one {RA : Hl} {us : List Value} {rows : List (List Int)} (hl : us.length = rows.length) (hr : ∀ (j : Nat) (u : Value) (r : List Int), us[j]? = some u → rows[j]? = some r → RdW RA u r) : ∀ u ∈ us, u.oneCell' = true := by
  intro u hu
  obtain ⟨j, hj⟩ := List.mem_iff_getElem?.1 hu
  have hjl := (List.getElem?_eq_some_iff.1 hj).1
  obtain ⟨x, y, c, rfl, _⟩ := hr j u _ hj (List.getElem?_eq_getElem (by omega))
  rfl
theorem ret_sl2 {s : Sx.Spec} {xs : List Value} {Rs : List Hl} {q : Env} {r1 r2 : Res} {n : Nat} {vs : List Nat} {ts ls : List E} {l c : E} (hr : s.res = [.one .sl]) (ho : r1.own = false ∧ r2.own = false ∨ True) (hn : -1 ≤ q.i n ∧ (0 : Int) ≤ 0 ∧ 0 ≤ iev q l ∧ 0 ≤ iev q c)
    (h : s.post xs [] Rs (.slice (slP (q.i n) 0) (iev q l).toNat (iev q c).toNat) [] (q.h n)) : postOf s xs [] Rs q [r1, r2, .hp n vs ts ls] (.sv (.one (.sl (.var n) (.lit 0) l c))) := fun _ =>
  ⟨[], [2], rfl, rfl, ⟨{ zEnv with i := fun k => [q.i n, 0, iev q l, iev q c].getD k 0 }, by rw [hr]; rfl, by rw [hr]; exact ⟨hn, trivial⟩⟩, by
    show s.post xs [] Rs _ [] (hls [q.h n])
    rw [hls_one]; exact h⟩
theorem both0_ok : both0.OK Tryz.prog := by
  refine Spec.of_fn (Γ := []) (fun _ h => by cases h) ?_
  rintro xs Hs Rs hl1 hl2 ⟨a, b, R1, R2, R3, Rw, ra, rb, rfl, rfl, hw, h1, h2, hla, hlb⟩
  have e0 : Hs = [] := List.length_eq_zero_iff.1 hl1
  subst e0
  obtain ⟨us, x, y, c, rfl, hy, hul, hcell, hrd⟩ := id h1
  obtain ⟨us2, x2, y2, c2, rfl, hy2, hul2, hcell2, hrd2⟩ := id h2
  refine ⟨bothW, envI [x, y, us.length, c, x2, y2, us2.length, c2] false [Hl.none, Hl.none, Hl.none, Hl.none, Hl.none, Hl.none, Hl.none, Hl.none, Rw, R2], fun _ _ => True, fun _ _ => 0, ?_, ⟨?_, ?_, ?_, ?_⟩, (fun _ h => nomatch h), ?_⟩
  · show [Value.slice (slP x y) ((us.length : Int)).toNat ((c : Int)).toNat, Value.slice (slP x2 y2) ((us2.length : Int)).toNat ((c2 : Int)).toNat] = _
    simp only [Int.toNat_natCast]
  · intro r hr ho; simp [bothW] at hr; rcases hr with rfl | rfl <;> cases ho
  · intro r hr ho; simp [bothW] at hr
    rcases hr with rfl | rfl
    · exact ⟨Rw, by rcases hw with rfl | rfl <;> simp, Hl.le_refl _⟩
    · exact ⟨R2, by simp, Hl.le_refl _⟩
  · simp [bothW, Res.own]
  · intro r hr; simp [bothW] at hr; rcases hr with rfl | rfl <;> trivial
  show Nd.holds _ _ _ bothNd
  generalize hρ : envI [x, y, us.length, c, x2, y2, us2.length, c2] false [Hl.none, Hl.none, Hl.none, Hl.none, Hl.none, Hl.none, Hl.none, Hl.none, Rw, R2] = ρ
  have V : ∀ q : Env, Agree 10 ρ q → q.i 0 = x ∧ q.i 1 = y ∧ q.i 2 = us.length ∧ q.i 4 = x2 ∧ q.i 5 = y2 ∧ q.i 6 = us2.length ∧ q.h 8 = Rw ∧ q.h 9 = R2 := fun q hg => by
    rw [hg.i 0 (by omega), hg.i 1 (by omega), hg.i 2 (by omega), hg.i 4 (by omega), hg.i 5 (by omega), hg.i 6 (by omega), hg.h 8 (by omega), hg.h 9 (by omega), ← hρ]
    exact ⟨rfl, rfl, rfl, rfl, rfl, rfl, rfl, rfl⟩
  clear hρ
  obtain ⟨k1, k2⟩ := seg_ok hy hcell (rows_one hul hrd)
  obtain ⟨k3, k4⟩ := seg_ok hy2 hcell2 (rows_one hul2 hrd2)
  unfold bothNd
  simp only [Nd.holds, X.pre, X.rel, X.n, Src.ok, Src.len, Src.vals, true_and, and_true, if_true, Nat.mul_one, Nat.add_zero, Nat.reduceAdd, List.length_cons, List.length_nil, bT_tt, bT_ff, bT_bvar, bT_not, bT_and, bT_or, bT_ite, bT_lt, bT_le, bT_eq, bT_beq, bT_seq, bT_hB, bT_his, bT_hby, bT_hism, bT_hks, iev_lit, iev_var, iev_add, iev_sub, iev_mul, iev_wrap, iev_ite, iev_hI, iev_hP, iev_hmlen, sev_ite, sev_slit, sev_sof, sev_svar, TV.ev, SV.ev, CV.ev, List.map_cons, List.map_nil, Res.hl]
  obtain ⟨v0, v1, v2, _, _, _, w8, _⟩ := V ρ (Agree.refl _ _)
  rw [v0, v1, v2, w8, k2]
  have t0 : Int.toNat 0 = 0 := rfl
  simp only [t0, Nat.zero_add, Int.toNat_natCast] at *
  refine ⟨⟨⟨[], rfl, Or.inl ⟨rfl, rfl⟩⟩, Int.le_refl 0, k1, by unfold maxLen; omega, by omega⟩, fun q1 g1 ⟨a1, a2, a3, _⟩ => ?_⟩
  have a3 := a3 [] ⟨rfl, Or.inl ⟨rfl, rfl⟩⟩
  rw [List.nil_append] at a3
  obtain ⟨_, _, u2, u4, u5, u6, _, u9⟩ := V q1 g1
  rw [u2, u4, u5, u6, u9, Int.toNat_natCast, Int.toNat_natCast, k4]
  refine ⟨⟨⟨us, a3⟩, by omega, k3, by unfold maxLen; omega, by omega⟩, fun q2 g2 ⟨b1, b2, b3, _⟩ => ?_⟩
  have b3 := b3 us a3
  have G2 : Agree 10 ρ q2 := g1.trans (g2.mono (by omega))
  obtain ⟨_, _, z2, _, _, z6, _, _⟩ := V q2 G2
  have e26 : (q2.i 2 + q2.i 6).toNat = us.length + us2.length := by rw [z2, z6]; omega
  refine ret_sl2 rfl (Or.inr trivial) ⟨b1, Int.le_refl 0, by show 0 ≤ q2.i 2 + q2.i 6; omega, b2⟩ ?_
  refine ⟨_, _, R1, R2, R3, Rw, ra, rb, rfl, rfl, hw, h1, h2, us ++ us2, q2.i 12, 0, (q2.i 13).toNat, ?_, Int.le_refl 0, by simp [hul, hul2], fun j u hj => ?_, fun j u r hj hr => ?_⟩
  · show Value.slice (slP (q2.i 12) 0) (q2.i 2 + q2.i 6).toNat (q2.i 13).toNat = _
    rw [e26, List.length_append]
  · have hjl := (List.getElem?_eq_some_iff.1 hj).1
    rw [List.length_append] at hjl
    rw [← e26] at b3
    obtain ⟨c1, c2⟩ := b3.cellAt b1 (i := j) (by omega)
    refine ⟨c1, ?_⟩
    show (q2.h 12).cell (q2.i 12).toNat (0 + j) = some u
    rw [Nat.zero_add, c2, hj]
  · rcases Nat.lt_or_ge j us.length with hlt | hge
    · rw [List.getElem?_append_left hlt] at hj
      rw [List.getElem?_append_left (by omega)] at hr
      exact hrd j u r hj hr
    · rw [List.getElem?_append_right hge] at hj
      rw [List.getElem?_append_right (by omega)] at hr
      exact hrd2 _ u r hj (by rw [← hul] at hr; exact hr)
end Go.Proofs.YtomdimlnggpgbaaGreatDoor
namespace Go.Proofs.YtomdimlnggpgbaaGreatDoor
open Go Go.Sx Go.Pk
open Go.Proofs.YtomdimlnggpgbaaGreatDoor.D hiding envI noLoops numS
def bothS : Sx.Spec where
  fn := 16
  own := []
  rd := [0, 1, 100]
  res := [.one .sl]
  pre := both0.pre
  post := fun xs Hs Rs v Hs' F => ∀ a b R1 R2 R3 Rw ra rb, xs = [a, b] → Rs = [R1, R2, R3] → (Rw = R1 ∨ Rw = R3) → RowsB Rw R3 a ra → RowsB R2 R3 b rb → RowsB F R3 v (ra ++ rb)
theorem bothS_ok : bothS.OK Tryz.prog := by
  intro w xs Hs Rs hl1 hl2 hs1 hs2 hd1 hd2 hpre
  refine (both0_ok w xs Hs Rs hl1 hl2 hs1 hs2 hd1 hd2 hpre).mono ?_
  rintro e w' ⟨ρ, Hs', F, he, hn, ht, a, b, R1, R2, R3, Rw, ra, rb, rfl, rfl, hw, h1, h2, hv⟩
  refine ⟨ρ, Hs', F, he, hn, ht, ?_⟩
  intro a' b' R1' R2' R3' Rw' ra' rb' e1 e2 hw' h1' h2'
  simp only [List.cons.injEq, and_true] at e1 e2
  obtain ⟨rfl, rfl⟩ := e1
  obtain ⟨rfl, rfl, rfl⟩ := e2
  obtain rfl := h2.uniq h2'
  have l1 : R1.le (Hl.all w) := fun k o h => hs2 _ (by simp) k o h
  have l3 : R3.le (Hl.all w) := fun k o h => hs2 _ (by simp) k o h
  have up : ∀ {X : Hl} {r : List (List Int)}, (X = R1 ∨ X = R3) → RowsB X R3 a r → RowsB (Hl.all w) (Hl.all w) a r := fun hx h => by
    rcases hx with rfl | rfl
    · exact h.mono l1 l3
    · exact h.mono l3 l3
  obtain rfl := (up hw h1).uniq (up hw' h1')
  exact hv
noncomputable def sizesS : Sx.Spec where
  fn := 14
  own := []
  rd := [0, 100]
  res := [.one (.int .i64), .one .bool]
  pre := fun xs Hs Rs => ∃ a R RA rows, xs = [a] ∧ Rs = [R, RA] ∧ RowsB R RA a rows ∧ rows.length ≤ 1000
  post := fun xs Hs Rs v Hs' F => ∀ a R RA rows, xs = [a] → Rs = [R, RA] → RowsB R RA a rows → ∃ z b, v = .tuple #[.int .i64 z, .bool b] ∧ (b = true ↔ packOk rows) ∧ (packOk rows → z = (packB rows).length)
def sizesNd : Nd := .and (.inv 0 [⟨50, 0, .int .i64 (.lit 0)⟩, ⟨51, 1, .bool .tt⟩, ⟨52, 0, .int .i64 (.lit 0)⟩] []) (.havoc 0 0 6 (.and (.e (.le (.lit 0) (.var 2))) (.and (.imp (.lt (.var 52) (.var 2)) (.and (.e (.le (.lit 0) (.var 0))) (.and (.e (.le (.lit 0) (.var 1))) (.and (.e (.le (.lit 0) (.var 52))) (.and (.e (.his 4 (.var 0) (.add (.var 1) (.var 52)) 0 .slice)) (.and (.e (.le (.lit 0) (.hP 4 (.var 0) (.add (.var 1) (.var 52)) 0 2))) (.and (.pre (.call 0 60 [.sv (.one (.int .u64 (.wrap .u64 (.hP 4 (.var 0) (.add (.var 1) (.var 52)) 0 2))))] [] [])) (.ext (.call 0 60 [.sv (.one (.int .u64 (.wrap .u64 (.hP 4 (.var 0) (.add (.var 1) (.var 52)) 0 2))))] [] []) (.and (.e (.le (.lit 0) (.var 62))) (.and (.imp (.bvar 51) (.back 0 0 [⟨50, 0, .int .i64 (.wrap .i64 (.add (.var 50) (.wrap .i64 (.add (.var 62) (.hP 4 (.var 0) (.add (.var 1) (.var 52)) 0 2)))))⟩, ⟨51, 1, .bool (.le (.hP 4 (.var 0) (.add (.var 1) (.var 52)) 0 2) (.lit 4096))⟩, ⟨52, 0, .int .i64 (.wrap .i64 (.add (.var 52) (.lit 1)))⟩] [])) (.imp (.not (.bvar 51)) (.back 0 0 [⟨50, 0, .int .i64 (.wrap .i64 (.add (.var 50) (.wrap .i64 (.add (.var 62) (.hP 4 (.var 0) (.add (.var 1) (.var 52)) 0 2)))))⟩, ⟨51, 1, .bool .ff⟩, ⟨52, 0, .int .i64 (.wrap .i64 (.add (.var 52) (.lit 1)))⟩] [])))))))))))) (.imp (.not (.lt (.var 52) (.var 2))) (.post [.ro 4 [.var 0] false, .ro 5 [] true] (.tup [.one (.int .i64 (.var 50)), .one (.bool (.bvar 51))]))))))
noncomputable def szΓ : List Sx.Spec := [rnumS]
theorem szΓ_ok : ∀ t ∈ szΓ, t.OK Tryz.prog := fun t ht => by
  simp only [szΓ, List.mem_singleton] at ht
  subst ht
  exact rnumS_ok
noncomputable def sizesW : Walk Tryz.prog szΓ sizesS.fn where
  Λ := fun p => if lp p then some ⟨0, [(4, TI .i64 (.var 50)), (5, .sv (.one (.bool (.bvar 51)))), (6, TI .i64 (.var 52))], [], 60⟩ else none
  args := [.sv (.one (.sl (.var 0) (.var 1) (.var 2) (.var 3)))]
  mem := [.ro 4 [.var 0] false, .ro 5 [] true]
  nv := 6
  nd := sizesNd
  ok := by kernel_rfl
theorem szg0 : szΓ[0]? = some rnumS := rfl
theorem szr0 : rnumS.res = [.one .sl] := rfl
theorem packB_bound : ∀ {rows : List (List Int)}, packOk rows → (packB rows).length ≤ 4098 * rows.length
  | [], _ => Nat.zero_le _
  | r :: rows, h => by
    have h1 := h r (List.mem_cons_self ..)
    have h2 := packB_bound (rows := rows) fun x hx => h x (List.mem_cons_of_mem _ hx)
    have b1 := numB_len 1 r.length (by omega)
    show (textBytes r ++ packB rows).length ≤ _
    unfold textBytes
    rw [List.length_append, List.length_append, List.length_cons]; omega
theorem sizesS_ok : sizesS.OK Tryz.prog := by
  refine Spec.of_fn (Γ := szΓ) szΓ_ok ?_
  rintro xs Hs Rs hl1 hl2 ⟨a, R, RA, rows, rfl, rfl, h1, hlen⟩
  have e0 : Hs = [] := List.length_eq_zero_iff.1 hl1
  subst e0
  obtain ⟨us, x, y, c, rfl, hy, hul, hcell, hrd⟩ := id h1
  refine ⟨sizesW, envI [x, y, us.length, c] false [Hl.none, Hl.none, Hl.none, Hl.none, R, RA], fun _ q => ∃ k : Nat, q.i 52 = k ∧ k ≤ rows.length ∧ (q.b 51 = true ↔ packOk (rows.take k)) ∧ (packOk (rows.take k) → q.i 50 = (packB (rows.take k)).length), fun _ q => (rows.length - q.i 52).toNat, ?_, ent_ro (by intro r hr; simp [sizesW] at hr; rcases hr with rfl | rfl <;> exact ⟨_, _, _, rfl⟩) rfl, (fun _ h => nomatch h), ?_⟩
  · show [Value.slice (slP x y) ((us.length : Int)).toNat ((c : Int)).toNat] = _
    simp only [Int.toNat_natCast]
  show Nd.holds _ _ _ sizesNd
  generalize hρ : envI [x, y, us.length, c] false [Hl.none, Hl.none, Hl.none, Hl.none, R, RA] = ρ
  have V : ∀ q : Env, Agree 6 ρ q → q.i 0 = x ∧ q.i 1 = y ∧ q.i 2 = us.length ∧ q.h 4 = R := fun q hg => by
    rw [hg.i 0 (by omega), hg.i 1 (by omega), hg.i 2 (by omega), hg.h 4 (by omega), ← hρ]
    exact ⟨rfl, rfl, rfl, rfl⟩
  clear hρ
  unfold sizesNd
  simp only [Nd.holds, X.pre, X.rel, X.n, Src.ok, Src.len, Src.vals, true_and, and_true, if_true, Nat.mul_one, Nat.add_zero, Nat.reduceAdd, List.length_cons, List.length_nil, bT_tt, bT_ff, bT_bvar, bT_not, bT_and, bT_or, bT_ite, bT_lt, bT_le, bT_eq, bT_beq, bT_seq, bT_hB, bT_his, bT_hby, bT_hism, bT_hks, iev_lit, iev_var, iev_add, iev_sub, iev_mul, iev_wrap, iev_ite, iev_hI, iev_hP, iev_hmlen, sev_ite, sev_slit, sev_sof, sev_svar, TV.ev, SV.ev, CV.ev, List.map_cons, List.map_nil, Res.hl, cpTV, Cp.sv, Ck.cv, cpSVs, Cp.len, Ck.len, newHs_zero, newHs_one, roots_ne, szg0, szr0]
  refine ⟨⟨0, rfl, Nat.zero_le _, ⟨fun _ r hr => by simp at hr, fun _ => rfl⟩, fun _ => rfl⟩, fun q g ⟨k, ek, hk, hb, hs⟩ => ?_⟩
  obtain ⟨v0, v1, v2, w4⟩ := V q g
  rw [v0, v1, v2, w4, ek]
  refine ⟨by omega, fun hlt => ?_, fun hge => ?_⟩
  · have hkr : k < rows.length := by omega
    have hrk : rows[k]? = some rows[k] := List.getElem?_eq_getElem hkr
    have hu : us[k]? = some us[k] := List.getElem?_eq_getElem (by omega)
    obtain ⟨hx0, hc⟩ := hcell k _ hu
    have hRr := hrd k _ _ hu hrk
    obtain ⟨⟨_, _, _, s1⟩, s2, _⟩ := RdW.parts hRr
    have hck : R.cell x.toNat (y + (k : Int)).toNat = some us[k] := by rw [show (y + (k : Int)).toNat = y.toNat + k by omega]; exact hc
    have wr : 0 ≤ IntKind.u64.wrap (rows[k].length : Int) ∧ IntKind.u64.wrap (rows[k].length : Int) < 18446744073709551616 := by
      unfold IntKind.wrap; simp only [IntKind.signed, IntKind.bits]
      exact ⟨Int.emod_nonneg _ (by decide), Int.emod_lt_of_pos _ (by decide)⟩
    rw [hck, s2]
    refine ⟨hx0, hy, by omega, by rw [s1]; rfl, by omega, ⟨_, rfl, wr.1, wr.2⟩, fun q1 g1 ⟨F, ⟨z, ez, hO⟩, hF, hn⟩ => ?_⟩
    have ez : IntKind.u64.wrap (rows[k].length : Int) = z := by simpa using ez
    have hn : -1 ≤ q1.i 60 ∧ 0 ≤ q1.i 61 ∧ 0 ≤ q1.i 62 ∧ 0 ≤ q1.i 63 := hn.1
    have l62 := (hO.rd.at hn.1 hn.2.1 hn.2.2.1).1
    have G1 : Agree 6 ρ q1 := g.trans (g1.mono (by omega))
    obtain ⟨z0, z1, _, z4⟩ := V q1 G1
    have hP : ∀ A, iev q1 (E.hP 4 (E.var 0) ((E.var 1).add (E.var 52)) 0 2) = A ↔ (rows[k].length : Int) = A := fun A => by
      show valP ((q1.h 4).cell (q1.i 0).toNat ((q1.i 1 + q1.i 52).toNat + 0)) 2 = A ↔ _
      rw [z4, z0, z1, g1.i 52 (by omega), ek, Nat.add_zero, hck, s2]
    have hPv := (hP _).2 rfl
    have tk : rows.take (k + 1) = rows.take k ++ [rows[k]] := by rw [List.take_add_one, hrk]; rfl
    have pk : packOk (rows.take (k + 1)) ↔ packOk (rows.take k) ∧ rows[k].length ≤ 4096 := by
      rw [tk]
      refine ⟨fun h => ⟨fun r hr => h r (List.mem_append_left _ hr), h _ (List.mem_append_right _ (List.mem_singleton.2 rfl))⟩, fun h r hr => ?_⟩
      rcases List.mem_append.1 hr with hr | hr
      · exact h.1 r hr
      · rw [List.mem_singleton] at hr; subst hr; exact h.2
    have e52 : IntKind.i64.wrap (q1.i 52 + 1) = ((k + 1 : Nat) : Int) := by rw [g1.i 52 (by omega), ek, wrap_i64 (by omega) (by omega)]; rfl
    have eS : packOk (rows.take (k + 1)) → IntKind.i64.wrap (q1.i 50 + IntKind.i64.wrap (q1.i 62 + (rows[k].length : Int))) = (packB (rows.take (k + 1))).length := by
      intro h
      obtain ⟨h1, h2⟩ := pk.1 h
      have hw : IntKind.u64.wrap (rows[k].length : Int) = rows[k].length := wrap_u64 (by omega) (by omega)
      rw [← ez, hw, Int.toNat_natCast] at l62
      have b1 := numB_len 1 rows[k].length (by omega)
      have b2 := packB_bound (rows := rows.take k) h1
      have b3 : (rows.take k).length ≤ 1000 := by rw [List.length_take]; omega
      have b4 : (packB (rows.take k)).length ≤ 4098 * 1000 := Nat.le_trans b2 (Nat.mul_le_mul_left _ b3)
      have wi : IntKind.i64.wrap (((numB rows[k].length).length : Int) + (rows[k].length : Int)) = ((numB rows[k].length).length : Int) + (rows[k].length : Int) := wrap_i64 (by omega) (by omega)
      rw [g1.i 50 (by omega), hs h1, l62, packB_take hrk, List.length_append, wi, wrap_i64 (by omega) (by omega)]
      unfold textBytes
      rw [List.length_append]; omega
    have fin : ∀ {b : Bool}, (b = true ↔ packOk (rows.take (k + 1))) → ∃ j : Nat, IntKind.i64.wrap (q1.i 52 + 1) = j ∧ j ≤ rows.length ∧ (b = true ↔ packOk (rows.take j)) ∧ (packOk (rows.take j) → IntKind.i64.wrap (q1.i 50 + IntKind.i64.wrap (q1.i 62 + (rows[k].length : Int))) = (packB (rows.take j)).length) := fun hb => ⟨k + 1, e52, by omega, hb, eS⟩
    have mu : ((rows.length : Int) - IntKind.i64.wrap (q1.i 52 + 1)).toNat < ((rows.length : Int) - k).toNat := by rw [e52]; omega
    refine ⟨hn.2.2.1, fun h51 => ⟨?_, ?_⟩, fun h51 => ⟨?_, ?_⟩⟩
    · obtain ⟨j, f1, f2, f3, f4⟩ := fin (b := decide (((rows[k].length : Nat) : Int) ≤ 4096)) (by
        rw [pk, decide_eq_true_iff]
        rw [g1.b 51 (by omega)] at h51
        exact ⟨fun h => ⟨hb.1 h51, by omega⟩, fun h => by have := h.2; omega⟩)
      refine ⟨j, f1, f2, ?_, fun h => ?_⟩
      · show decide (iev q1 (E.hP 4 (E.var 0) ((E.var 1).add (E.var 52)) 0 2) ≤ 4096) = true ↔ _
        rw [hPv]; exact f3
      · show IntKind.i64.wrap (q1.i 50 + IntKind.i64.wrap (q1.i 62 + iev q1 (E.hP 4 (E.var 0) ((E.var 1).add (E.var 52)) 0 2))) = _
        rw [hPv]; exact f4 h
    · exact mu
    · obtain ⟨j, f1, f2, f3, f4⟩ := fin (b := false) (by
        rw [pk]
        refine ⟨fun h => (nomatch h), fun h => absurd (hb.2 h.1) ?_⟩
        rw [g1.b 51 (by omega)] at h51
        exact h51)
      refine ⟨j, f1, f2, f3, fun h => ?_⟩
      show IntKind.i64.wrap (q1.i 50 + IntKind.i64.wrap (q1.i 62 + iev q1 (E.hP 4 (E.var 0) ((E.var 1).add (E.var 52)) 0 2))) = _
      rw [hPv]; exact f4 h
    · exact mu
  · have hke : k = rows.length := by omega
    subst hke
    rw [List.take_length] at hb hs
    refine fun _ => ⟨[], [], rfl, rfl, ⟨{ zEnv with i := fun _ => q.i 50, b := fun _ => q.b 51 }, rfl, trivial, trivial, trivial⟩, fun a' R' RA' rows' e1 e2 h' => ?_⟩
    simp only [List.cons.injEq, and_true] at e1 e2
    obtain ⟨rfl, rfl⟩ := e2
    subst e1
    obtain rfl := h1.uniq h'
    exact ⟨_, _, rfl, hb, hs⟩
end Go.Proofs.YtomdimlnggpgbaaGreatDoor
namespace Go.Proofs.YtomdimlnggpgbaaGreatDoor
open Go Go.Sx Go.Pk
open Go.Proofs.YtomdimlnggpgbaaGreatDoor.D hiding envI noLoops numS
structure Op9 where
  k : Int
  u : Value
  f : Int
  rows : List (List Int)
def op9kd : List Kd := [.int .u8, .slice, .int .i64]
def Op9.row (o : Op9) : List Value := [.int .u8 o.k, o.u, .int .i64 o.f]
def Ops9 (R : Hl) (v : Value) (ops : List Op9) : Prop := RdRows R v op9kd (ops.map Op9.row) ∧ ∀ o ∈ ops, RowsB R R o.u o.rows
theorem Ops9.uniq {R : Hl} {v : Value} {a b : List Op9} (h : Ops9 R v a) (h' : Ops9 R v b) : a = b := by
  have e := h.1.uniq h'.1
  have hl : a.length = b.length := by have := congrArg List.length e; simpa using this
  apply List.ext_getElem hl
  intro j h1 h2
  have ej : (a.map Op9.row)[j]? = (b.map Op9.row)[j]? := by rw [e]
  rw [List.getElem?_map, List.getElem?_map, List.getElem?_eq_getElem h1, List.getElem?_eq_getElem h2] at ej
  have ej := Option.some.inj ej
  have ha := h.2 _ (List.getElem_mem h1)
  have hb := h'.2 _ (List.getElem_mem h2)
  cases hx : a[j] with
  | mk k u f rows =>
    cases hy : b[j] with
    | mk k' u' f' rows' =>
      rw [hx] at ha ej
      rw [hy] at hb ej
      simp only [Op9.row, List.cons.injEq, Value.int.injEq, true_and, and_true] at ej
      obtain ⟨rfl, rfl, rfl⟩ := ej
      obtain rfl := ha.uniq hb
      rfl
theorem Ops9.at {R : Hl} {x y : Int} {l c : Nat} {ops : List Op9} (h : Ops9 R (.slice (slP x y) l c) ops) (hy : 0 ≤ y) : l = ops.length ∧ ∀ (i : Nat) o, ops[i]? = some o → 0 ≤ x ∧ R.cell x.toNat (y.toNat + i * 3) = some (.int .u8 o.k) ∧ R.cell x.toNat (y.toNat + i * 3 + 1) = some o.u ∧ R.cell x.toNat (y.toNat + i * 3 + 2) = some (.int .i64 o.f) ∧ RowsB R R o.u o.rows := by
  obtain ⟨⟨x', y', c', hv, hy', hc⟩, hr⟩ := h
  simp only [Value.slice.injEq, List.length_map] at hv
  obtain ⟨ep, el, _⟩ := hv
  refine ⟨el, fun i o hi => ?_⟩
  rcases hc with hc | ⟨hx, hc⟩
  · have : ops = [] := by simpa using hc
    rw [this] at hi; cases hi
  obtain ⟨rfl, rfl⟩ := slP_eqS hx hy' hy ep
  obtain ⟨_, hcell⟩ := hc i o.row (by rw [List.getElem?_map, hi]; rfl)
  have k0 := hcell 0 _ rfl
  have k1 := hcell 1 _ rfl
  have k2 := hcell 2 _ rfl
  exact ⟨hx, k0, k1, k2, hr o (List.mem_of_getElem? hi)⟩
def few9S : Sx.Spec where
  fn := 11
  own := []
  rd := [0]
  res := [.one .bool]
  pre := fun xs Hs Rs => ∃ v n R ops, xs = [v, .int .i64 n] ∧ Rs = [R] ∧ Ops9 R v ops ∧ n ≤ 100
  post := fun xs Hs Rs w Hs' F => ∀ v n R ops, xs = [v, .int .i64 n] → Rs = [R] → Ops9 R v ops → ∃ z, w = .bool z ∧ (z = true → (ops.length : Int) ≤ n ∧ ∀ o ∈ ops, o.rows.length ≤ 30)
def few9Nd : Nd := .and (.inv 0 [⟨50, 0, .int .i64 (.lit 0)⟩, ⟨51, 0, .int .i64 (.lit 0)⟩] []) (.havoc 0 0 6 (.and (.e (.le (.lit 0) (.var 2))) (.and (.imp (.lt (.var 51) (.var 2)) (.and (.imp (.lt (.var 51) (.lit 100)) (.and (.inv 1 [⟨70, 0, .int .i64 (.var 50)⟩, ⟨71, 0, .int .i64 (.lit 0)⟩] []) (.havoc 1 1 60 (.and (.e (.le (.lit 0) (.var 0))) (.and (.e (.le (.lit 0) (.var 1))) (.and (.e (.le (.lit 0) (.var 51))) (.and (.e (.his 5 (.var 0) (.add (.add (.var 1) (.mul (.var 51) (.lit 3))) (.lit 1)) 0 .slice)) (.and (.e (.le (.lit 0) (.hP 5 (.var 0) (.add (.add (.var 1) (.mul (.var 51) (.lit 3))) (.lit 1)) 0 2))) (.and (.imp (.lt (.var 71) (.hP 5 (.var 0) (.add (.add (.var 1) (.mul (.var 51) (.lit 3))) (.lit 1)) 0 2)) (.and (.imp (.lt (.var 71) (.lit 100)) (.and (.e (.le (.lit 0) (.hP 5 (.var 0) (.add (.add (.var 1) (.mul (.var 51) (.lit 3))) (.lit 1)) 0 0))) (.and (.e (.le (.lit 0) (.hP 5 (.var 0) (.add (.add (.var 1) (.mul (.var 51) (.lit 3))) (.lit 1)) 0 1))) (.and (.e (.le (.lit 0) (.var 71))) (.and (.e (.his 5 (.hP 5 (.var 0) (.add (.add (.var 1) (.mul (.var 51) (.lit 3))) (.lit 1)) 0 0) (.add (.hP 5 (.var 0) (.add (.add (.var 1) (.mul (.var 51) (.lit 3))) (.lit 1)) 0 1) (.var 71)) 0 .slice)) (.and (.e (.le (.lit 0) (.hP 5 (.hP 5 (.var 0) (.add (.add (.var 1) (.mul (.var 51) (.lit 3))) (.lit 1)) 0 0) (.add (.hP 5 (.var 0) (.add (.add (.var 1) (.mul (.var 51) (.lit 3))) (.lit 1)) 0 1) (.var 71)) 0 2))) (.back 1 1 [⟨70, 0, .int .i64 (.wrap .i64 (.add (.var 70) (.ite (.lt (.lit 5000) (.hP 5 (.hP 5 (.var 0) (.add (.add (.var 1) (.mul (.var 51) (.lit 3))) (.lit 1)) 0 0) (.add (.hP 5 (.var 0) (.add (.add (.var 1) (.mul (.var 51) (.lit 3))) (.lit 1)) 0 1) (.var 71)) 0 2)) (.lit 5000) (.hP 5 (.hP 5 (.var 0) (.add (.add (.var 1) (.mul (.var 51) (.lit 3))) (.lit 1)) 0 0) (.add (.hP 5 (.var 0) (.add (.add (.var 1) (.mul (.var 51) (.lit 3))) (.lit 1)) 0 1) (.var 71)) 0 2))))⟩, ⟨71, 0, .int .i64 (.wrap .i64 (.add (.var 71) (.lit 1)))⟩] []))))))) (.imp (.not (.lt (.var 71) (.lit 100))) (.and (.imp (.lt (.lit 30) (.hP 5 (.var 0) (.add (.add (.var 1) (.mul (.var 51) (.lit 3))) (.lit 1)) 0 2)) (.post [.ro 5 [.var 0] true] (.sv (.one (.bool .ff))))) (.imp (.not (.lt (.lit 30) (.hP 5 (.var 0) (.add (.add (.var 1) (.mul (.var 51) (.lit 3))) (.lit 1)) 0 2))) (.back 0 0 [⟨50, 0, .int .i64 (.var 70)⟩, ⟨51, 0, .int .i64 (.wrap .i64 (.add (.var 51) (.lit 1)))⟩] [])))))) (.imp (.not (.lt (.var 71) (.hP 5 (.var 0) (.add (.add (.var 1) (.mul (.var 51) (.lit 3))) (.lit 1)) 0 2))) (.and (.imp (.lt (.lit 30) (.hP 5 (.var 0) (.add (.add (.var 1) (.mul (.var 51) (.lit 3))) (.lit 1)) 0 2)) (.post [.ro 5 [.var 0] true] (.sv (.one (.bool .ff))))) (.imp (.not (.lt (.lit 30) (.hP 5 (.var 0) (.add (.add (.var 1) (.mul (.var 51) (.lit 3))) (.lit 1)) 0 2))) (.back 0 0 [⟨50, 0, .int .i64 (.var 70)⟩, ⟨51, 0, .int .i64 (.wrap .i64 (.add (.var 51) (.lit 1)))⟩] []))))))))))))) (.imp (.not (.lt (.var 51) (.lit 100))) (.and (.imp (.le (.var 2) (.var 4)) (.post [.ro 5 [.var 0] true] (.sv (.one (.bool (.le (.var 50) (.lit 12000))))))) (.imp (.not (.le (.var 2) (.var 4))) (.post [.ro 5 [.var 0] true] (.sv (.one (.bool .ff))))))))) (.imp (.not (.lt (.var 51) (.var 2))) (.and (.imp (.le (.var 2) (.var 4)) (.post [.ro 5 [.var 0] true] (.sv (.one (.bool (.le (.var 50) (.lit 12000))))))) (.imp (.not (.le (.var 2) (.var 4))) (.post [.ro 5 [.var 0] true] (.sv (.one (.bool .ff))))))))))
def few9W : Walk Tryz.prog [] few9S.fn where
  Λ := fun p => if lp p then (if p.length > 8 then some ⟨1, [(5, TI .i64 (.var 70)), (7, TI .i64 (.var 71))], [], 80⟩ else some ⟨0, [(5, TI .i64 (.var 50)), (6, TI .i64 (.var 51))], [], 60⟩) else none
  args := [.sv (.one (.sl (.var 0) (.var 1) (.var 2) (.var 3))), .sv (.one (.int .i64 (.var 4)))]
  mem := [.ro 5 [.var 0] true]
  nv := 6
  nd := few9Nd
  ok := by kernel_rfl
theorem few9S_ok : few9S.OK Tryz.prog := by
  refine Spec.of_fn (Γ := []) (fun _ h => nomatch h) ?_
  rintro xs Hs Rs hl1 hl2 ⟨v, n, R, ops, rfl, rfl, hO, hn⟩
  have e0 : Hs = [] := List.length_eq_zero_iff.1 hl1
  subst e0
  obtain ⟨x, y, c, hv, hy, _⟩ := id hO.1
  rw [List.length_map] at hv
  subst hv
  have hat := (hO.at hy).2
  refine ⟨few9W, envI [x, y, ops.length, c, n] false [Hl.none, Hl.none, Hl.none, Hl.none, Hl.none, R],
    fun j q => match j with | 0 => ∃ i : Nat, q.i 51 = i ∧ i ≤ ops.length ∧ ∀ o ∈ ops.take i, o.rows.length ≤ 30 | _ => ∃ k : Nat, q.i 71 = k ∧ k ≤ 100,
    fun j q => match j with | 0 => (ops.length - q.i 51).toNat | _ => (101 - q.i 71).toNat, ?_, ent_ro (by intro r hr; simp [few9W] at hr; subst hr; exact ⟨_, _, _, rfl⟩) rfl, (fun _ h => nomatch h), ?_⟩
  · show [Value.slice (slP x y) ((ops.length : Int)).toNat ((c : Int)).toNat, _] = _
    simp only [Int.toNat_natCast]; rfl
  show Nd.holds _ _ _ few9Nd
  generalize hρ : envI [x, y, ops.length, c, n] false [Hl.none, Hl.none, Hl.none, Hl.none, Hl.none, R] = ρ
  have V : ∀ q : Env, Agree 6 ρ q → q.i 0 = x ∧ q.i 1 = y ∧ q.i 2 = ops.length ∧ q.i 4 = n ∧ q.h 5 = R := fun q hg => by
    rw [hg.i 0 (by omega), hg.i 1 (by omega), hg.i 2 (by omega), hg.i 4 (by omega), hg.h 5 (by omega), ← hρ]
    exact ⟨rfl, rfl, rfl, rfl, rfl⟩
  clear hρ
  have out : ∀ {q : Env} {e : E} {mem : Mem}, (bev q e = true → (ops.length : Int) ≤ n ∧ ∀ o ∈ ops, o.rows.length ≤ 30) → postOf few9S [.slice (slP x y) ops.length c, .int .i64 n] [] [R] q mem (.sv (.one (.bool e))) := by
    intro q e mem he
    refine fun _ => ⟨[], [], rfl, rfl, ⟨{ zEnv with b := fun _ => bev q e }, rfl, trivial, trivial⟩, fun v' n' R' ops' e1 e2 h' => ?_⟩
    simp only [List.cons.injEq, Value.int.injEq, true_and, and_true] at e1 e2
    obtain ⟨rfl, rfl⟩ := e1
    subst e2
    obtain rfl := hO.uniq h'
    exact ⟨_, rfl, he⟩
  have ff : ∀ {q : Env} {mem : Mem}, postOf few9S [.slice (slP x y) ops.length c, .int .i64 n] [] [R] q mem (.sv (.one (.bool .ff))) := out fun e => by rw [bev_ff] at e; cases e
  unfold few9Nd
  simp only [Nd.holds, X.pre, X.rel, X.n, Src.ok, Src.len, Src.vals, true_and, and_true, if_true, Nat.mul_one, Nat.add_zero, Nat.reduceAdd, List.length_cons, List.length_nil, bT_tt, bT_ff, bT_bvar, bT_not, bT_and, bT_or, bT_ite, bT_lt, bT_le, bT_eq, bT_beq, bT_seq, bT_hB, bT_his, bT_hby, bT_hism, bT_hks, iev_lit, iev_var, iev_add, iev_sub, iev_mul, iev_wrap, iev_ite, iev_hI, iev_hP, iev_hmlen, sev_ite, sev_slit, sev_sof, sev_svar, TV.ev, SV.ev, CV.ev, List.map_cons, List.map_nil, Res.hl]
  refine ⟨⟨0, rfl, Nat.zero_le _, fun o h => by simp at h⟩, fun q g ⟨i, ei, hi, hall⟩ => ?_⟩
  obtain ⟨v0, v1, v2, v4, w5⟩ := V q g
  rw [v2, v4, ei]
  refine ⟨by omega, fun hlt => ⟨fun h100 => ?_, fun h100 => ⟨fun hln => absurd hln (by omega), fun _ => ff⟩⟩, fun hge => ⟨fun hln => out fun _ => ⟨hln, fun o ho => hall o ?_⟩, fun _ => ff⟩⟩
  · refine ⟨⟨0, rfl, by omega⟩, fun q1 g1 ⟨k, ek, hk⟩ => ?_⟩
    have G1 : Agree 6 ρ q1 := g.trans (g1.mono (by omega))
    obtain ⟨z0, z1, z2, z4, z5⟩ := V q1 G1
    have hio : ops[i]? = some ops[i] := List.getElem?_eq_getElem (by omega)
    obtain ⟨hx, _, c1, _, hB⟩ := hat i _ hio
    obtain ⟨us, x2, y2, c2, hu, hy2, hul, hcell, hrd⟩ := id hB
    have e1 : R.cell x.toNat (y + (i : Int) * 3 + 1).toNat = some ops[i].u := by rw [show (y + (i : Int) * 3 + 1).toNat = y.toNat + i * 3 + 1 by omega]; exact c1
    have s2u : valP (some (Value.slice (slP x2 y2) us.length c2)) 2 = us.length := by
      cases hs : slP x2 y2 with
      | none => rfl
      | some a => obtain ⟨b, o, s⟩ := a; cases s <;> rfl
    rw [z0, z1, z5, g1.i 51 (by omega), ei, ek, e1, hu, s2u]
    have tail : ∀ {mem : Mem}, (30 < (us.length : Int) → postOf few9S [.slice (slP x y) ops.length c, .int .i64 n] [] [R] q1 mem (.sv (.one (.bool .ff)))) ∧ (¬ 30 < (us.length : Int) → (∃ j : Nat, IntKind.i64.wrap (q1.i 51 + 1) = j ∧ j ≤ ops.length ∧ ∀ o ∈ ops.take j, o.rows.length ≤ 30) ∧ ((ops.length : Int) - IntKind.i64.wrap (q1.i 51 + 1)).toNat < ((ops.length : Int) - i).toNat) := by
      refine ⟨fun _ => ff, fun h30 => ?_⟩
      have ew : IntKind.i64.wrap (q1.i 51 + 1) = ((i + 1 : Nat) : Int) := by rw [g1.i 51 (by omega), ei, wrap_i64 (by omega) (by omega)]; rfl
      refine ⟨⟨i + 1, ew, by omega, fun o ho => ?_⟩, by rw [ew]; omega⟩
      rw [List.take_add_one, hio, Option.toList_some] at ho
      rcases List.mem_append.1 ho with h | h
      · exact hall o h
      · rw [List.mem_singleton] at h; subst h; omega
    refine ⟨hx, hy, by omega, rfl, by omega, fun h71 => ⟨fun h1 => ?_, fun _ => ?_⟩, fun _ => ?_⟩
    · have h71 : (k : Int) < us.length := h71
      have huk : us[k]? = some us[k] := List.getElem?_eq_getElem (by omega)
      obtain ⟨hx2, hc2⟩ := hcell k _ huk
      have hRr := hrd k _ _ huk (List.getElem?_eq_getElem (by omega))
      obtain ⟨⟨_, _, _, s1⟩, s2, _⟩ := RdW.parts hRr
      rw [sl0 (by omega), sl1 hx2 hy2, show (y2 + (k : Int)).toNat = y2.toNat + k by omega, hc2]
      refine ⟨hx2, hy2, by omega, by rw [s1]; rfl, by rw [s2]; omega, ⟨k + 1, ?_, by omega⟩, ?_⟩
      · show IntKind.i64.wrap (q1.i 71 + 1) = _
        rw [ek, wrap_i64 (by omega) (by omega)]; rfl
      · show (101 - IntKind.i64.wrap (q1.i 71 + 1)).toNat < (101 - (k : Int)).toNat
        rw [ek, wrap_i64 (by omega) (by omega)]; omega
    · exact ⟨fun h => tail.1 h, fun h => (tail (mem := [])).2 h⟩
    · exact ⟨fun h => tail.1 h, fun h => (tail (mem := [])).2 h⟩
  · rw [List.take_of_length_le (by omega)]; exact ho
end Go.Proofs.YtomdimlnggpgbaaGreatDoor
namespace Go.Proofs.YtomdimlnggpgbaaGreatDoor
open Go Go.Sx Go.Pk
open Go.Proofs.YtomdimlnggpgbaaGreatDoor.D hiding envI noLoops numS
def z16 : List Int := List.replicate 16 0
theorem sOpen_new {m : Nat} (h : 6 ≤ m ∧ m ≤ 16384) : sOpenE (newD m) = 0 ∧ sOpen (newD m) = mkS ⟨0, 64 * (((m / 2 : Nat) : Int) - 2), 0, 0, z16, false⟩ [] ⟨((m / 2 : Nat) : Int), 64 * (((m / 2 : Nat) : Int) - 2), 0, 0, z16, false⟩ [] := by
  have hs : (newD m).n = m := by
    show sects m = m
    unfold sects; omega
  have h1 : Holds (newD m) 0 ((m / 2 : Nat) : Int) 0 [] (List.replicate 16 0) := newD_holds (by omega) (by omega) (by omega)
  have h2 : Holds (newD m) (m / 2) ((m / 2 : Nat) : Int) 0 [] (List.replicate 16 0) := newD_holds (by omega) (by omega) (by omega)
  have e1 : lowL (newD m) = ⟨0, 64 * (((m / 2 : Nat) : Int) - 2), 0, 0, z16, false⟩ := by unfold lowL; rw [hs]; exact h1.openL
  have e2 : highL (newD m) = ⟨((m / 2 : Nat) : Int), 64 * (((m / 2 : Nat) : Int) - 2), 0, 0, z16, false⟩ := by unfold highL; rw [hs]; exact h2.openL
  have e3 : lowB (newD m) = [] := by unfold lowB; rw [hs]; exact h1.openB
  have e4 : highB (newD m) = [] := by unfold highB; rw [hs]; exact h2.openB
  refine ⟨?_, ?_⟩
  · unfold sOpenE
    rw [hs, if_neg (by omega)]; rfl
  · unfold sOpen
    rw [e1, e2, e3, e4, if_neg (by show ¬ bigI _ < bigI _; exact Int.lt_irrefl _)]
theorem newD_bytes (n : Int) : bytes256 (newD n).now := fun z hz => by
  have := (List.mem_replicate.1 (show z ∈ List.replicate (64 * sects n) 0 from hz)).2
  subst this
  decide
theorem numC_zero : numC 0 = 0 := rfl
theorem addR_ok {D : DM} {S : SM} {rows : List (List Int)} (ho : S.over = false) (hk : packOk rows) (hne : rows ≠ []) (hr : ((packB rows).length : Int) ≤ S.LA.most - S.bA.length) (he : (appendR D S.LA S.bA (packB rows) S.LA.note).e = 0) :
    (addR D S rows).e = 0 ∧ (addR D S rows).D = (appendR D S.LA S.bA (packB rows) S.LA.note).D ∧ (addR D S rows).S = ⟨(appendR D S.LA S.bA (packB rows) S.LA.note).L, (appendR D S.LA S.bA (packB rows) S.LA.note).bs, S.LB, S.bB, S.recs ++ rows, false⟩ := by
  have e : addR D S rows = addD D S rows (appendR D S.LA S.bA (packB rows) S.LA.note) := by
    unfold addR
    rw [if_neg (by rw [ho]; simp), if_neg (fun h => h hk), if_neg hne, if_neg (by omega)]
  rw [e]
  unfold addD
  rw [he, numC_zero, if_pos rfl, if_neg (fun h => h.1 rfl), ho]
  exact ⟨rfl, rfl, rfl⟩
noncomputable def lwΓ : List Sx.Spec := [newS, sopenS, sroomS, addS, srecS, rsameS, sgenS]
theorem lwΓ_ok : ∀ t ∈ lwΓ, t.OK Tryz.prog := fun t ht => by
  simp only [lwΓ, List.mem_cons, List.mem_nil_iff, or_false] at ht
  rcases ht with rfl | rfl | rfl | rfl | rfl | rfl | rfl
  · exact newS_ok
  · exact sopenS_ok
  · exact sroomS_ok
  · exact addS_ok
  · exact srecS_ok
  · exact rsameS_ok
  · exact sgenS_ok
theorem lwr0 : newS.res = [.one .ptr] := rfl
theorem lwr1 : sopenS.res = [.one .ptr, .one (.int .i64)] := rfl
theorem lwr2 : sroomS.res = [.one (.int .i64)] := rfl
theorem lwr3 : addS.res = [.one (.int .i64)] := rfl
theorem lwr4 : srecS.res = [.one .sl] := rfl
theorem new_post {n : Int} {v : Value} {F : Hl} {K : List Hl} (hp : newS.post [.int .i64 n] [] [] v K F) : DiskAt F v (newD n) := by
  obtain ⟨n1, hx1, hD1⟩ := hp
  have hx1 : n = n1 := by simpa using hx1
  subst hx1
  exact hD1
theorem sopen_post {dp v : Value} {H H' F : Hl} {D : DM} (hD : DiskAt H dp D) (hp : sopenS.post [dp] [H] [] v [H'] F) : ∃ pv, DiskAt H' dp D ∧ v = .tuple #[pv, .int .i64 (sOpenE D)] ∧ (sOpenE D = 0 → StoreAt F pv dp (sOpen D)) ∧ (sOpenE D ≠ 0 → pv = .pointer none) := by
  obtain ⟨dp', Hx, D', H2, pv, e1, e2, hD', e3, hD2, hv, h1, h2⟩ := hp
  simp only [List.cons.injEq, and_true] at e1 e2 e3
  subst e1 e2 e3
  obtain rfl := hD'.uniq hD
  exact ⟨pv, hD2, hv, h1, h2⟩
theorem add_post {p u dp v : Value} {H HD H' HD' R RA RG F : Hl} {S : SM} {D : DM} {rows : List (List Int)} (h1 : StoreAt H p dp S) (h2 : DiskAt HD dp D) (h3 : RowsB R RA u rows) (hp : addS.post [p, u] [H, HD] [R, RA, RG] v [H', HD'] F) :
    DiskAt HD' dp (addR D S rows).D ∧ StoreAt H' p dp (addR D S rows).S ∧ v = .int .i64 (addR D S rows).e := by
  obtain ⟨p', u', Hx, HDx, Rx, RAx, RGx, dp', S', D', rows', H2, HD2, e1, e2, e3, k1, k2, k3, e4, k4, k5, hv⟩ := hp
  simp only [List.cons.injEq, and_true] at e1 e2 e3 e4
  obtain ⟨a1, a2⟩ := e1
  obtain ⟨a3, a4⟩ := e2
  obtain ⟨a5, a6, a7⟩ := e3
  obtain ⟨a8, a9⟩ := e4
  subst a1 a2 a3 a4 a5 a6 a7 a8 a9
  obtain ⟨rfl, rfl⟩ := h1.rd.uniq k1.rd
  obtain rfl := h2.uniq k2
  obtain rfl := h3.uniq k3
  exact ⟨k4, k5, hv⟩
theorem StoreAt.ne {H : Hl} {x y : Int} {dp : Value} {S : SM} (h : StoreAt H (.pointer (slP x y)) dp S) : x ≠ -1 := by
  obtain ⟨a, _, _, _, _, _, _, he, _⟩ := h
  intro hx
  rw [hx, slP_nil] at he
  cases he
theorem RowsR.lenI {F : Hl} {x y l c : Int} {rows : List (List Int)} (h : RowsR F (.slice (slP x y) l.toNat c.toNat) rows) (hl : 0 ≤ l) : l = rows.length := by
  obtain ⟨_, _, _, e⟩ := h.rep
  simp only [Value.slice.injEq] at e
  omega
def awakeS : Sx.Spec where
  fn := 10
  own := []
  rd := [2000000]
  res := [.one .bool]
  pre := fun xs Hs Rs => ∃ R g, xs = [] ∧ Rs = [R] ∧ Gl R g
  post := fun xs Hs Rs v Hs' F => v = .bool true
def awakeNd : Nd := .and (.pre (.call 0 1 [.sv (.one (.int .i64 (.lit 6)))] [] [])) (.ext (.call 0 1 [.sv (.one (.int .i64 (.lit 6)))] [] []) (.and (.pre (.call 1 3 [.sv (.one (.hptr (.var 1) (.var 2)))] [.hp 1 [] [.var 1] []] [])) (.ext (.call 1 3 [.sv (.one (.hptr (.var 1) (.var 2)))] [.hp 1 [] [.var 1] []] []) (.and (.imp (.eq (.var 5) (.lit 0)) (.and (.imp (.not (.eq (.var 3) (.lit (-1)))) (.and (.pre (.call 2 6 [.sv (.one (.hptr (.var 3) (.var 4)))] [] [.hp 4 [] [.var 3] [.var 1]])) (.ext (.call 2 6 [.sv (.one (.hptr (.var 3) (.var 4)))] [] [.hp 4 [] [.var 3] [.var 1]]) (.and (.imp (.eq (.var 6) (.lit 64)) (.ext (.alloc 7) (.ext (.cbs 8 7 [.int .u8 (.lit 120)] 5) (.ext (.alloc 9) (.and (.pre (.call 3 10 [.sv (.one (.hptr (.var 3) (.var 4))), .sv (.one (.sl (.var 9) (.lit 0) (.lit 1) (.lit 1)))] [.hp 4 [] [.var 3] [.var 1], .hp 3 [1] [.var 1] []] [.blk 9 [.sl (.var 7) (.lit 0) (.lit 1) (.lit 1)] 46, .hp 8 [] [.var 7] [], .ro 0 [.lit 0, .lit 1, .lit 2] false])) (.ext (.call 3 10 [.sv (.one (.hptr (.var 3) (.var 4))), .sv (.one (.sl (.var 9) (.lit 0) (.lit 1) (.lit 1)))] [.hp 4 [] [.var 3] [.var 1], .hp 3 [1] [.var 1] []] [.blk 9 [.sl (.var 7) (.lit 0) (.lit 1) (.lit 1)] 46, .hp 8 [] [.var 7] [], .ro 0 [.lit 0, .lit 1, .lit 2] false]) (.and (.imp (.eq (.var 10) (.lit 0)) (.and (.pre (.call 4 13 [.sv (.one (.hptr (.var 3) (.var 4)))] [] [.hp 10 [4] [.var 3] [.var 1]])) (.ext (.call 4 13 [.sv (.one (.hptr (.var 3) (.var 4)))] [] [.hp 10 [4] [.var 3] [.var 1]]) (.and (.e (.le (.lit 0) (.var 15))) (.post [.ro 0 [.lit 0, .lit 1, .lit 2] false, .hp 11 [3, 1] [.var 1] [], .hp 10 [4] [.var 3] [.var 1], .hp 8 [] [.var 7] [], .dead, .hp 13 [] [.var 13] []] (.sv (.one (.bool (.eq (.var 15) (.lit 1)))))))))) (.imp (.not (.eq (.var 10) (.lit 0))) (.post [.ro 0 [.lit 0, .lit 1, .lit 2] false, .hp 11 [3, 1] [.var 1] [], .hp 10 [4] [.var 3] [.var 1], .hp 8 [] [.var 7] [], .dead] (.sv (.one (.bool .ff)))))))))))) (.imp (.not (.eq (.var 6) (.lit 64))) (.post [.ro 0 [.lit 0, .lit 1, .lit 2] false, .hp 3 [1] [.var 1] [], .hp 4 [] [.var 3] [.var 1]] (.sv (.one (.bool .ff))))))))) (.imp (.eq (.var 3) (.lit (-1))) (.post [.ro 0 [.lit 0, .lit 1, .lit 2] false, .hp 3 [1] [.var 1] [], .hp 4 [] [.var 3] [.var 1]] (.sv (.one (.bool .ff))))))) (.imp (.not (.eq (.var 5) (.lit 0))) (.post [.ro 0 [.lit 0, .lit 1, .lit 2] false, .hp 3 [1] [.var 1] [], .hp 4 [] [.var 3] [.var 1]] (.sv (.one (.bool .ff)))))))))
noncomputable def awakeW : Walk Tryz.prog lwΓ awakeS.fn where
  Λ := noLoops
  args := []
  mem := [.ro 0 [.lit 0, .lit 1, .lit 2] false]
  nv := 1
  nd := awakeNd
  ok := by kernel_rfl
theorem lwg0 : lwΓ[0]? = some newS := rfl
theorem lwg1 : lwΓ[1]? = some sopenS := rfl
theorem lwg2 : lwΓ[2]? = some sroomS := rfl
theorem lwg3 : lwΓ[3]? = some addS := rfl
theorem lwg4 : lwΓ[4]? = some srecS := rfl
theorem ex_add : packOk [[120]] ∧ (packB [[120]]).length = 2 := ⟨by intro r hr; rw [List.mem_singleton] at hr; subst hr; decide, by
  have : packB [[120]] = [1, 120] := by
    show (textBytes [120] ++ []) = _
    unfold textBytes
    rw [numB_low (by decide)]; rfl
  rw [this]; rfl⟩
theorem aw_add : (addR (newD 6) (mkS ⟨0, 64, 0, 0, z16, false⟩ [] ⟨3, 64, 0, 0, z16, false⟩ []) [[120]]).e = 0 ∧ (addR (newD 6) (mkS ⟨0, 64, 0, 0, z16, false⟩ [] ⟨3, 64, 0, 0, z16, false⟩ []) [[120]]).S.recs = [[120]] := by
  have hH : Holds (newD 6) 0 3 0 [] (List.replicate 16 0) := newD_holds (by omega) (by omega) (by omega)
  have ha := (hH.append (b := packB [[120]]) (nt' := z16) (by rw [ex_add.2]; decide) (by decide) rfl).1
  obtain ⟨a1, a2, a3⟩ := addR_ok (D := newD 6) (S := mkS ⟨0, 64, 0, 0, z16, false⟩ [] ⟨3, 64, 0, 0, z16, false⟩ []) (rows := [[120]]) rfl ex_add.1 (by simp) (by rw [ex_add.2]; decide) ha
  refine ⟨a1, ?_⟩
  rw [a3]; rfl
theorem awakeS_ok : awakeS.OK Tryz.prog := by
  refine Spec.of_fn (Γ := lwΓ) lwΓ_ok ?_
  rintro xs Hs Rs hl1 hl2 ⟨R, g, rfl, rfl, hG⟩
  have e0 : Hs = [] := List.length_eq_zero_iff.1 hl1
  subst e0
  refine ⟨awakeW, envI [] false [R], fun _ _ => True, fun _ _ => 0, rfl, ⟨?_, ?_, ?_, ?_⟩, (fun _ h => nomatch h), ?_⟩
  · intro r hr ho; simp [awakeW] at hr; subst hr; cases ho
  · intro r hr ho; simp [awakeW] at hr; subst hr; exact ⟨R, by simp, Hl.le_refl _⟩
  · simp [awakeW]
  · intro r hr; simp [awakeW] at hr; subst hr; trivial
  · show Nd.holds _ _ _ awakeNd
    generalize hρ : envI [] false [R] = ρ
    have w0 : ρ.h 0 = R := by rw [← hρ]; rfl
    clear hρ
    obtain ⟨hE, hS⟩ := sOpen_new (m := 6) (by omega)
    have hE : sOpenE (newD 6) = 0 := hE
    have hS : sOpen (newD 6) = mkS ⟨0, 64, 0, 0, z16, false⟩ [] ⟨3, 64, 0, 0, z16, false⟩ [] := hS
    unfold awakeNd
    simp only [Nd.holds, X.pre, X.rel, X.n, Src.ok, Src.len, Src.vals, true_and, and_true, if_true, Nat.mul_one, Nat.add_zero, Nat.reduceAdd, List.length_cons, List.length_nil, bT_tt, bT_ff, bT_bvar, bT_not, bT_and, bT_or, bT_ite, bT_lt, bT_le, bT_eq, bT_beq, bT_seq, bT_hB, bT_his, bT_hby, bT_hism, bT_hks, iev_lit, iev_var, iev_add, iev_sub, iev_mul, iev_wrap, iev_ite, iev_hI, iev_hP, iev_hmlen, sev_ite, sev_slit, sev_sof, sev_svar, TV.ev, SV.ev, CV.ev, List.map_cons, List.map_nil, Res.hl, cpTV, Cp.sv, Ck.cv, cpSVs, Cp.len, Ck.len, newHs_zero, newHs_one, roots_ne, lwg0, lwg1, lwg2, lwg3, lwg4, lwr0, lwr1, lwr2, lwr3, lwr4, rptr, rpi, rsl]
    refine ⟨⟨6, rfl⟩, fun q1 g1 ⟨F1, hp1, hF1, _⟩ => ?_⟩
    have hD1 := new_post hp1
    rw [← hF1 trivial] at hD1
    refine ⟨⟨_, _, _, rfl, rfl, hD1, openB_bytes (newD_bytes 6), openB_bytes (newD_bytes 6)⟩, fun q2 g2 ⟨F2, hp2, hF2, _⟩ => ?_⟩
    obtain ⟨pv, hD2, hv2, hs2, _⟩ := sopen_post hD1 hp2
    simp only [Value.tuple.injEq, Array.mk.injEq, List.cons.injEq, Value.int.injEq, true_and, and_true] at hv2
    obtain ⟨rfl, h5⟩ := hv2
    have hs2 := hs2 hE
    rw [hS, ← hF2 trivial] at hs2
    rw [hE] at h5
    refine ⟨fun _ => ⟨fun _ => ⟨⟨_, _, _, _, rfl, rfl, hs2.rd, by decide⟩, fun q3 g3 ⟨F3, hp3, _⟩ => ?_⟩, fun h => absurd h hs2.ne⟩, fun h => absurd h5 h⟩
    have h6 := sroom_post hs2.rd hp3
    have h6 : q3.i 6 = 64 := by simpa [mkS] using h6
    refine ⟨fun _ q4 g4 p7 q5 g5 h8 q6 g6 p9 => ?_, fun h => absurd h6 h⟩
    have G6 : Agree 7 q3 q6 := g4.trans ((g5.trans (g6.mono (by omega))).mono (by omega))
    have G26 : Agree 6 q2 q6 := g3.trans (G6.mono (by omega))
    have e7 : q6.i 7 = q4.i 7 := by rw [g6.i 7 (by omega), g5.i 7 (by omega)]
    have hrows : RowsB (Hl.one (q6.i 9).toNat (.cells #[Value.slice (slP (q6.i 7) 0) (Int.toNat 1) (Int.toNat 1)] 46 (0, 0))) (q6.h 8) (.slice (slP (q6.i 9) 0) (Int.toNat 1) (Int.toNat 1)) [[120]] := by
      refine ⟨[Value.slice (slP (q6.i 7) 0) (Int.toNat 1) (Int.toNat 1)], q6.i 9, 0, 1, rfl, Int.le_refl _, rfl, fun j u hj => ?_, fun j u r hj hr => ?_⟩
      · refine ⟨p9, ?_⟩
        rw [Hl.one_cell]
        match j with
        | 0 => exact hj
      · match j with
        | 0 =>
          have hj : Value.slice (slP (q6.i 7) 0) (Int.toNat 1) (Int.toNat 1) = u := by simpa using hj
          have hr : [120] = r := by simpa using hr
          subst hj hr
          refine ⟨q6.i 7, 0, 1, rfl, Int.le_refl _, Or.inr ⟨by rw [e7]; exact p7, fun j z hz => ?_⟩⟩
          rw [g6.h 8 (by omega), h8, e7, Hl.one_cell]
          match j with
          | 0 => cases hz; rfl
    have hs6 : StoreAt (q6.h 4) (.pointer (slP (q6.i 3) (q6.i 4))) (.pointer (slP (q1.i 1) (q1.i 2))) (mkS ⟨0, 64, 0, 0, z16, false⟩ [] ⟨3, 64, 0, 0, z16, false⟩ []) := by
      rw [G26.h 4 (by omega), G26.i 3 (by omega), G26.i 4 (by omega)]; exact hs2
    have hD6 : DiskAt (q6.h 3) (.pointer (slP (q1.i 1) (q1.i 2))) (newD 6) := by rw [G26.h 3 (by omega)]; exact hD2
    have hG6 : Gl (q6.h 0) g := by
      rw [G26.h 0 (by omega), g2.h 0 (by omega), g1.h 0 (by omega), w0]; exact hG
    refine ⟨⟨_, _, _, _, _, _, _, g, _, _, _, [[120]], rfl, rfl, rfl, hs6, hD6, hrows, hG6, by decide, by decide, by decide, Int.le_refl _, by decide⟩, fun q7 g7 ⟨F7, hp7, _⟩ => ?_⟩
    obtain ⟨hD7, hs7, hv7⟩ := add_post (H' := q7.h 10) (HD' := q7.h 11) hs6 hD6 hrows hp7
    rw [aw_add.1] at hv7
    have hv7 : q7.i 10 = 0 := by simpa using hv7
    rw [g7.i 3 (by omega), g7.i 4 (by omega)]
    refine ⟨fun _ => ⟨⟨_, _, _, _, rfl, rfl, hs7.rd, by rw [aw_add.2]; decide, by rw [aw_add.2]; decide⟩, fun q8 g8 ⟨F8, hp8, hF8, hn8⟩ => ?_⟩, fun h => absurd hv7 h⟩
    have hn8 : -1 ≤ q8.i 13 ∧ 0 ≤ q8.i 14 ∧ 0 ≤ q8.i 15 ∧ 0 ≤ q8.i 16 := hn8.1
    have hr8 := srec_post hs7.rd hp8
    rw [aw_add.2] at hr8
    have h15 : q8.i 15 = 1 := RowsR.lenI hr8 hn8.2.2.1
    have hbv : bev q8 (.eq (.var 15) (.lit 1)) = true := by
      rw [bev_eq, iev_var, iev_lit, h15]; rfl
    refine ⟨hn8.2.2.1, fun _ => ⟨[], [], rfl, rfl, ⟨⟨fun _ => 0, fun _ => true, fun _ => .empty, fun _ => .tuple #[], fun _ => Hl.none⟩, ?_, trivial, trivial⟩, ?_⟩⟩
    · show Value.bool (bev q8 _) = .bool true
      rw [hbv]
    · show Value.bool (bev q8 _) = .bool true
      rw [hbv]
end Go.Proofs.YtomdimlnggpgbaaGreatDoor
namespace Go.Proofs.YtomdimlnggpgbaaGreatDoor
open Go Go.Sx Go.Pk
open Go.Proofs.YtomdimlnggpgbaaGreatDoor.D hiding envI noLoops numS
def yes (fn : FuncId) (pre : List Value → List Hl → Prop) (rd : List Nat) : Sx.Spec where
  fn := fn
  own := []
  rd := rd
  res := [.one .bool]
  pre := fun xs Hs Rs => pre xs Rs
  post := fun xs Hs Rs v Hs' F => v = .bool true
theorem yes_out {fn : FuncId} {pre : List Value → List Hl → Prop} {rd : List Nat} {xs : List Value} {Rs : List Hl} {q : Env} {mem : Mem} {e : E} (h : bev q e = true) : postOf (yes fn pre rd) xs [] Rs q mem (.sv (.one (.bool e))) := fun _ =>
  ⟨[], [], rfl, rfl, ⟨⟨fun _ => 0, fun _ => true, fun _ => .empty, fun _ => .tuple #[], fun _ => Hl.none⟩, by show Value.bool (bev q e) = .bool true; rw [h], trivial, trivial⟩, by show Value.bool (bev q e) = .bool true; rw [h]⟩
end Go.Proofs.YtomdimlnggpgbaaGreatDoor
namespace Go.Proofs.YtomdimlnggpgbaaGreatDoor.D
open Go Go.Sx
theorem putD_out {D : DM} (h : D.ok) {i : Int} (hi : D.has i = true) {bs : List Int} (hb : bs.length = 64) {j : Nat} (hj : ¬ (64 * i.toNat ≤ j ∧ j < 64 * i.toNat + 64)) : (putD D i bs).now[j]? = D.now[j]? := by
  rw [putD_get h hi hb, if_neg hj]
theorem fillGo_out (frm : Nat) (all : List Int) (B : Nat) : ∀ (f i : Nat) (D : DM), Sure D → all.length + 1 ≤ f + i → all.length + 64 * (frm + 2) ≤ 64 * D.n → 64 * (frm + 2) + all.length ≤ 64 * B →
    ∀ j, (j < 64 * frm ∨ 64 * B ≤ j) → (fillGo frm all f i D).2.now[j]? = D.now[j]? := by
  intro f
  induction f with
  | zero =>
    intro i D h h1 h2 h3 j hj
    show (syncR D).2.now[j]? = _
    rw [(syncR_sure h).2.2.1]
  | succ f ih =>
    intro i D h h1 h2 h3 j hj
    have ec : (frm : Int) + 2 + i = ((frm + 2 + i : Nat) : Int) := by omega
    by_cases hlt : 64 * i < all.length
    · have hi : D.has ((frm : Int) + 2 + i) = true := by unfold DM.has; simp only [decide_eq_true_eq]; omega
      have hw := writeR_sure h hi (secA_length all i)
      have e : fillGo frm all (f + 1) i D = fillGo frm all f (i + 1) (putD D ((frm : Int) + 2 + i) (secA all i)) := by
        show (if 64 * i < all.length then _ else _) = _
        rw [if_pos hlt, hw]; simp
      rw [e, ih (i + 1) _ (putD_sure h hi (secA_length all i)) (by omega) h2 h3 j hj, putD_out h.ok hi (secA_length all i)]
      rw [ec, Int.toNat_natCast]; omega
    · have e : fillGo frm all (f + 1) i D = syncR D := by
        show (if 64 * i < all.length then _ else _) = _
        rw [if_neg hlt]
      rw [e, (syncR_sure h).2.2.1]
theorem Holds.out {D : DM} {frm : Nat} {n : Int} {k : Nat} {all nt : List Int} (h : Holds D frm n k all nt) {b nt' : List Int} (hb : (all.length : Int) + b.length ≤ 64 * (n - 2)) (hk : k < 1000000) (hn' : nt'.length = 16) :
    (appendR D ⟨frm, 64 * (n - 2), k, all.length, nt, false⟩ all b nt').D.n = D.n ∧ ∀ j : Nat, ((j : Int) < 64 * frm ∨ 64 * (frm + n) ≤ (j : Int)) → (appendR D ⟨frm, 64 * (n - 2), k, all.length, nt, false⟩ all b nt').D.now[j]? = D.now[j]? := by
  obtain ⟨r1, r2⟩ := h.rng
  have hDn := h.sure.ok.n
  have hal : (all ++ b).length = all.length + b.length := List.length_append
  obtain ⟨L, hL⟩ : ∃ L : LM, L = ⟨frm, 64 * (n - 2), k, all.length, nt, false⟩ := ⟨_, rfl⟩
  rw [← hL]
  have f1 : L.frm = frm := by rw [hL]
  have f2 : L.most = 64 * (n - 2) := by rw [hL]
  have f3 : L.serial = k := by rw [hL]
  have f4 : L.over = false := by rw [hL]
  obtain ⟨F, hF⟩ : ∃ F, F = (fillR D L.frm (all ++ b) all.length).2 := ⟨_, rfl⟩
  obtain ⟨a1, a2, a3, _, _⟩ := fillGo_sure frm (all ++ b) ((all ++ b).length + 1) (all.length / 64) D h.sure (by omega) (by omega)
  have ao := fillGo_out frm (all ++ b) (frm + n.toNat) ((all ++ b).length + 1) (all.length / 64) D h.sure (by omega) (by omega) (by omega)
  have efr : fillR D L.frm (all ++ b) all.length = fillGo frm (all ++ b) ((all ++ b).length + 1) (all.length / 64) D := by
    unfold fillR
    rw [f1, show (((all.length : Nat) : Int) / 64).toNat = all.length / 64 by omega]
  rw [← efr] at a1 a2 a3 ao
  rw [← hF] at a2 a3 ao
  obtain ⟨N, hN⟩ : ∃ N, N = newH L (all ++ b) nt' := ⟨_, rfl⟩
  have eN : N = ((k + 1 : Nat) : Int) :: ((all ++ b).length : Int) :: nt' := by
    rw [hN]; unfold newH; rw [f3]; rfl
  have hp : ((k + 1 : Nat) : Int).tmod 2 = (((k + 1) % 2 : Nat) : Int) := by
    rw [Int.tmod_eq_emod_of_nonneg (by omega)]; omega
  obtain ⟨p, hpp⟩ : ∃ p, p = (k + 1) % 2 := ⟨_, rfl⟩
  have hp2 : p < 2 := by omega
  obtain ⟨b1, _⟩ := half_head (a := ((k + 1 : Nat) : Int)) (b := ((all ++ b).length : Int)) (nt := nt') ⟨by omega, by omega⟩ ⟨by omega, by omega⟩ hn'
  rw [← eN] at b1
  have hhl : (halfL N ++ halfL N).length = 64 := by rw [List.length_append, b1]
  have ei : ∀ q : Nat, (frm : Int) + ((q : Nat) : Int) = ((frm + q : Nat) : Int) := fun q => by omega
  have hasF : F.has ((frm : Int) + (p : Int)) = true := by unfold DM.has; rw [a3]; simp only [decide_eq_true_eq]; omega
  have hw := writeR_sure a2 hasF hhl
  obtain ⟨G, hG⟩ : ∃ G, G = putD F ((frm : Int) + (p : Int)) (halfL N ++ halfL N) := ⟨_, rfl⟩
  rw [← hG] at hw
  have hGs : Sure G := by rw [hG]; exact putD_sure a2 hasF hhl
  have hGn : G.n = D.n := by rw [hG, ← a3]; rfl
  obtain ⟨s1, s2, s3, s4⟩ := syncR_sure hGs
  have htn : turnR F L.frm N = syncR G := by
    unfold turnR
    have e0 : N.getD 0 0 = ((k + 1 : Nat) : Int) := by rw [eN]; rfl
    rw [f1, e0, hp, ← hpp, hw]; simp
  have hbec : becomeR D L (all ++ b) nt' all.length = (0, (syncR G).2) := by
    unfold becomeR
    rw [if_neg (by rw [a1]; simp), ← hF, ← hN, htn, if_neg (by rw [s1]; simp)]
  have happ : appendR D L all b nt' = ⟨0, (syncR G).2, grownL L (all ++ b) nt', all ++ b⟩ := by
    unfold appendR
    rw [f4, f3, f2, if_neg (by simp), if_neg (by omega), if_neg (by omega), hbec]; rfl
  rw [happ]
  refine ⟨s4.trans hGn, fun j hj => ?_⟩
  show (syncR G).2.now[j]? = _
  rw [s3, hG, putD_out a2.ok hasF hhl (by rw [ei p, Int.toNat_natCast]; omega)]
  exact ao j (by omega)
theorem Holds.keep {D D' : DM} {frm : Nat} {n : Int} {k : Nat} {all nt : List Int} (h : Holds D frm n k all nt) (hs : Sure D') (hn : D'.n = D.n) (hsame : ∀ j : Nat, 64 * (frm : Int) ≤ j → (j : Int) < 64 * (frm + n) → D'.now[j]? = D.now[j]?) : Holds D' frm n k all nt := by
  obtain ⟨r1, r2⟩ := h.rng
  have hl := h.len
  have rd : ∀ q : Nat, q < 2 → lreadR D' frm (64 * (n - 2)) (q : Int) = lreadR D frm (64 * (n - 2)) (q : Int) := by
    intro q hq
    refine lread_same h.sure hs hn (by unfold DM.has; simp only [decide_eq_true_eq]; omega) (sector_same fun j h1 h2 => hsame j ?_ ?_)
    · omega
    · omega
  refine ⟨hs, ⟨r1, by rw [hn]; exact r2⟩, hl, h.note, ?_, ?_, fun t z ht => ?_⟩
  · rw [rd _ (by omega)]; exact h.cur
  · have e1 : lreadR D' frm (64 * (n - 2)) 1 = lreadR D frm (64 * (n - 2)) 1 := rd 1 (by omega)
    rw [rd _ (by omega), e1]; exact h.oth
  · have hlt := (List.getElem?_eq_some_iff.1 ht).1
    rw [hsame _ (by omega) (by omega)]
    exact h.bytes t z ht
end Go.Proofs.YtomdimlnggpgbaaGreatDoor.D
namespace Go.Proofs.YtomdimlnggpgbaaGreatDoor
open Go Go.Sx Go.Pk
open Go.Proofs.YtomdimlnggpgbaaGreatDoor.D hiding envI noLoops numS
theorem tx_text {r rest : List Int} (h : r.length ≤ 4096) : tx (textBytes r ++ rest) = (r, rest, false) := by
  have e : numR (textBytes r ++ rest) = (r.length, (numB r.length).length) := by
    unfold numR textBytes
    rw [List.append_assoc, numAt_enc (by omega)]
    rfl
  have hp := numB_pos r.length
  unfold tx inText
  rw [e, if_neg]
  · show (((textBytes r ++ rest).drop (numB r.length).length).take r.length, (textBytes r ++ rest).drop ((numB r.length).length + r.length), false) = _
    unfold textBytes
    rw [List.append_assoc, List.drop_left' rfl, List.take_left' rfl, ← List.drop_drop, List.drop_left' rfl, List.drop_left' rfl]
  · show ¬ (false = true ∨ (numB r.length).length = 0 ∨ (4096 : Int) < 0 ∨ min (min 4096 4096) (((textBytes r ++ rest).length : Int) - ((numB r.length).length : Nat)) < ((r.length : Nat) : Int))
    have : (textBytes r ++ rest).length = (numB r.length).length + r.length + rest.length := by unfold textBytes; simp; omega
    rw [this]
    simp only [Bool.false_eq_true, false_or]
    omega
theorem packB_cons (r : List Int) (rows : List (List Int)) : packB (r :: rows) = textBytes r ++ packB rows := rfl
theorem packB_one (r : List Int) : packB [r] = textBytes r := by rw [packB_cons]; exact List.append_nil _
theorem packB_append (a b : List (List Int)) : packB (a ++ b) = packB a ++ packB b := by unfold packB; rw [List.map_append, List.flatten_append]
theorem takenL_pack : ∀ {rows : List (List Int)}, packOk rows → takenL (packB rows) = rows
  | [], _ => rfl
  | r :: rows, h => by
    have hr := h r (List.mem_cons_self ..)
    have hp := numB_pos r.length
    rw [packB_cons, takenL_at (by intro e; have := congrArg List.length e; unfold textBytes at this; rw [List.length_append, List.length_append] at this; simp only [List.length_nil] at this; omega), tx_text hr, if_neg (by simp)]
    show r :: takenL (packB rows) = _
    rw [takenL_pack fun s hs => h s (List.mem_cons_of_mem _ hs)]
theorem textBytes_len {r : List Int} (h : r.length ≤ 100) : (textBytes r).length ≤ 101 := by
  unfold textBytes
  rw [numB_low (by omega)]; simp; omega
theorem packB_len : ∀ {rows : List (List Int)}, (∀ r ∈ rows, r.length ≤ 100) → (packB rows).length ≤ 101 * rows.length
  | [], _ => Nat.le_refl _
  | r :: rows, h => by
    have h1 := textBytes_len (h r (List.mem_cons_self ..))
    have h2 := packB_len (rows := rows) fun s hs => h s (List.mem_cons_of_mem _ hs)
    rw [packB_cons, List.length_append, List.length_cons]; omega
end Go.Proofs.YtomdimlnggpgbaaGreatDoor
namespace Go.Proofs.YtomdimlnggpgbaaGreatDoor
open Go Go.Sx Go.Pk
open Go.Proofs.YtomdimlnggpgbaaGreatDoor.D hiding envI noLoops numS
def low0 (k : Nat) (all : List Int) : LM := ⟨0, 6272, k, all.length, z16, false⟩
def high0 : LM := ⟨100, 6272, 0, 0, z16, false⟩
structure GI (D : DM) (rows : List (List Int)) (k : Nat) : Prop where
  n : D.n = 200
  lo : Holds D 0 100 k (packB (rows.take k)) z16
  hi : Holds D 100 100 0 [] z16
  short : ∀ r ∈ rows.take k, r.length ≤ 100
theorem packB_bytes {rows : List (List Int)} (h : ∀ r ∈ rows, bytes256 r) : bytes256 (packB rows) := by
  intro z hz
  unfold packB at hz
  obtain ⟨l, hl, hz⟩ := List.mem_flatten.1 hz
  obtain ⟨r, hr, rfl⟩ := List.mem_map.1 hl
  unfold textBytes at hz
  rcases List.mem_append.1 hz with h1 | h1
  · exact numB_byte _ z h1
  · exact h r hr z h1
theorem GI.new (rows : List (List Int)) : GI (newD 200) rows 0 where
  n := rfl
  lo := newD_holds (by omega) (by omega) (by omega)
  hi := newD_holds (by omega) (by omega) (by omega)
  short := fun r hr => by simp at hr
theorem GI.ok {D : DM} {rows : List (List Int)} {k : Nat} (h : GI D rows k) : packOk (rows.take k) := fun r hr => by have := h.short r hr; omega
theorem GI.open {D : DM} {rows : List (List Int)} {k : Nat} (h : GI D rows k) : sOpenE D = 0 ∧ sOpen D = ⟨low0 k (packB (rows.take k)), packB (rows.take k), high0, [], rows.take k, false⟩ ∧ lowB D = packB (rows.take k) ∧ highB D = [] := by
  have e1 : lowL D = low0 k (packB (rows.take k)) := by unfold lowL; rw [h.n]; exact h.lo.openL
  have e2 : highL D = high0 := by unfold highL; rw [h.n]; exact h.hi.openL
  have e3 : lowB D = packB (rows.take k) := by unfold lowB; rw [h.n]; exact h.lo.openB
  have e4 : highB D = [] := by unfold highB; rw [h.n]; exact h.hi.openB
  refine ⟨?_, ?_, e3, e4⟩
  · unfold sOpenE
    rw [h.n, h.lo.sure.gone, if_neg (by decide)]; rfl
  · unfold sOpen
    rw [e1, e2, e3, e4, if_neg (by show ¬ bigI _ < bigI _; exact Int.lt_irrefl _)]
    unfold mkS
    rw [takenL_pack h.ok]
theorem GI.room {D : DM} {rows : List (List Int)} {k : Nat} (h : GI D rows k) (hk : k ≤ 20) : (packB (rows.take k)).length ≤ 2020 := by
  have := packB_len h.short
  have hl : (rows.take k).length ≤ k := by rw [List.length_take]; omega
  have : 101 * (rows.take k).length ≤ 101 * 20 := Nat.mul_le_mul_left _ (by omega)
  omega
theorem GI.step {D : DM} {rows : List (List Int)} {k : Nat} {r : List Int} (h : GI D rows k) (hk : rows[k]? = some r) (hr : r.length ≤ 100) (hk20 : k < 20) : (addR D (sOpen D) [r]).e = 0 ∧ GI (addR D (sOpen D) [r]).D rows (k + 1) := by
  obtain ⟨_, hS, _, _⟩ := h.open
  have hroom := h.room (by omega)
  have hone : (packB [r]).length ≤ 101 := by rw [packB_one]; exact textBytes_len hr
  have hcap : (((packB (rows.take k)).length : Nat) : Int) + ((packB [r]).length : Nat) ≤ 64 * ((100 : Int) - 2) := by omega
  obtain ⟨a1, a2, a3, a4⟩ := h.lo.append (b := packB [r]) (nt' := z16) hcap (by omega) rfl
  obtain ⟨o1, o2⟩ := h.lo.out (b := packB [r]) (nt' := z16) hcap (by omega) rfl
  have hok : packOk [r] := fun s hs => by rw [List.mem_singleton] at hs; subst hs; omega
  rw [hS]
  obtain ⟨b1, b2, b3⟩ := addR_ok (D := D) (S := ⟨low0 k (packB (rows.take k)), packB (rows.take k), high0, [], rows.take k, false⟩) (rows := [r]) rfl hok (by simp) (by show ((packB [r]).length : Int) ≤ 6272 - ((packB (rows.take k)).length : Int); omega) a1
  refine ⟨b1, ?_⟩
  rw [b2]
  have hpk := packB_take hk
  refine ⟨o1.trans h.n, ?_, ?_, fun s hs => ?_⟩
  · rw [hpk, ← packB_one r]; exact a2
  · exact h.hi.keep a2.sure o1 fun j h1 h2 => o2 j (Or.inr (by omega))
  · rw [List.take_add_one, hk, Option.toList_some] at hs
    rcases List.mem_append.1 hs with h1 | h1
    · exact h.short s h1
    · rw [List.mem_singleton] at h1; subst h1; exact hr
theorem GI.all {rows : List (List Int)} (hr : ∀ r ∈ rows, r.length ≤ 100) (hn : rows.length ≤ 20) : (addR (newD 200) (sOpen (newD 200)) rows).e = 0 ∧ (addR (newD 200) (sOpen (newD 200)) rows).S.recs = rows ∧ (addR (newD 200) (sOpen (newD 200)) rows).S.LA.most = 6272 ∧ (addR (newD 200) (sOpen (newD 200)) rows).S.bA = packB rows := by
  have h := GI.new rows
  obtain ⟨_, hS, _, _⟩ := h.open
  have hlen := packB_len hr
  have : 101 * rows.length ≤ 101 * 20 := Nat.mul_le_mul_left _ hn
  have hok : packOk rows := fun r hm => by have := hr r hm; omega
  rw [hS]
  by_cases hne : rows = []
  · subst hne
    have e : addR (newD 200) ⟨low0 0 (packB (List.take 0 [])), packB (List.take 0 []), high0, [], List.take 0 [], false⟩ [] = ⟨0, newD 200, ⟨low0 0 (packB (List.take 0 [])), packB (List.take 0 []), high0, [], List.take 0 [], false⟩⟩ := by
      unfold addR
      rw [if_neg (by simp), if_neg (fun h => h hok), if_pos rfl]
    rw [e]
    exact ⟨rfl, rfl, rfl, rfl⟩
  · obtain ⟨a1, a2, a3, a4⟩ := h.lo.append (b := packB rows) (nt' := z16) (by show ((([] : List Int).length : Nat) : Int) + _ ≤ _; simp; omega) (by omega) rfl
    obtain ⟨b1, b2, b3⟩ := addR_ok (D := newD 200) (S := ⟨low0 0 (packB (rows.take 0)), packB (rows.take 0), high0, [], rows.take 0, false⟩) (rows := rows) rfl hok hne (by show ((packB rows).length : Int) ≤ 6272 - 0; omega) a1
    refine ⟨b1, ?_, ?_, ?_⟩
    · rw [b3]; rfl
    · rw [b3]
      exact congrArg LM.most a4
    · rw [b3]
      exact a3
end Go.Proofs.YtomdimlnggpgbaaGreatDoor
namespace Go.Proofs.YtomdimlnggpgbaaGreatDoor
open Go Go.Sx Go.Pk
open Go.Proofs.YtomdimlnggpgbaaGreatDoor.D hiding envI noLoops numS
theorem sopen_pre {dp : Value} {H : Hl} {D : DM} (h : DiskAt H dp D) (h1 : bytes256 (lowB D)) (h2 : bytes256 (highB D)) : sopenS.pre [dp] [H] [] := ⟨_, _, _, rfl, rfl, h, h1, h2⟩
end Go.Proofs.YtomdimlnggpgbaaGreatDoor
namespace Go.Proofs.YtomdimlnggpgbaaGreatDoor
open Go Go.Sx Go.Pk
open Go.Proofs.YtomdimlnggpgbaaGreatDoor.D hiding envI noLoops numS
structure SP (D : DM) (S : SM) (n : Nat) (g : Int) (K : Nat) where
  fA : Nat
  kA : Nat
  ntA : List Int
  fB : Nat
  kB : Nat
  ntB : List Int
  hn : D.n / 2 = n
  n3 : 3 ≤ n
  place : (fA = 0 ∧ fB = n ∧ bigI (ntB.take 8) ≤ g) ∨ (fA = n ∧ fB = 0 ∧ bigI (ntB.take 8) < g)
  hA : Holds D fA n kA S.bA ntA
  hB : Holds D fB n kB S.bB ntB
  eA : S.LA = ⟨fA, 64 * ((n : Int) - 2), kA, S.bA.length, ntA, false⟩
  eB : S.LB = ⟨fB, 64 * ((n : Int) - 2), kB, S.bB.length, ntB, false⟩
  pk : S.bA = packB S.recs
  ok : packOk S.recs
  ov : S.over = false
  gen : bigI (ntA.take 8) = g
  g0 : 0 ≤ g ∧ g ≤ K
  kK : kA ≤ K ∧ kB ≤ K
  loose : D.loose = []
  b1 : bytes256 S.bA
  b2 : bytes256 S.bB
theorem SP.open {D : DM} {S : SM} {n : Nat} {g : Int} {K : Nat} (h : SP D S n g K) : sOpenE D = 0 ∧ sOpen D = S ∧ bytes256 (lowB D) ∧ bytes256 (highB D) := by
  obtain ⟨fA, kA, ntA, fB, kB, ntB, hn, n3, place, hA, hB, eA, eB, pk, ok, ov, gen, g0, kK, loose, b1, b2⟩ := h
  have hE : sOpenE D = 0 := by
    unfold sOpenE
    rw [hn, hA.sure.gone, if_neg (by omega)]; rfl
  have hSx : S = mkS S.LA S.bA S.LB S.bB := by
    unfold mkS
    rw [pk, takenL_pack ok, ← pk, ← ov]
  have gA : genI S.LA = g := by unfold genI; rw [eA]; exact gen
  rcases place with ⟨rfl, rfl, hg⟩ | ⟨rfl, rfl, hg⟩
  · have e1 : lowL D = S.LA := by unfold lowL; rw [hn, eA]; exact hA.openL
    have e2 : highL D = S.LB := by unfold highL; rw [hn, eB]; exact hB.openL
    have e3 : lowB D = S.bA := by unfold lowB; rw [hn]; exact hA.openB
    have e4 : highB D = S.bB := by unfold highB; rw [hn]; exact hB.openB
    refine ⟨hE, ?_, by rw [e3]; exact b1, by rw [e4]; exact b2⟩
    unfold sOpen
    rw [e1, e2, e3, e4, gA, if_neg (by show ¬ g < genI S.LB; unfold genI; rw [eB]; show ¬ g < bigI (ntB.take 8); omega)]
    exact hSx.symm
  · have e1 : lowL D = S.LB := by unfold lowL; rw [hn, eB]; exact hB.openL
    have e2 : highL D = S.LA := by unfold highL; rw [hn, eA]; exact hA.openL
    have e3 : lowB D = S.bB := by unfold lowB; rw [hn]; exact hB.openB
    have e4 : highB D = S.bA := by unfold highB; rw [hn]; exact hA.openB
    refine ⟨hE, ?_, by rw [e3]; exact b2, by rw [e4]; exact b1⟩
    unfold sOpen
    rw [e1, e2, e3, e4, gA, if_pos (by show genI S.LB < g; unfold genI; rw [eB]; exact hg)]
    exact hSx.symm
def SP.more {D : DM} {S : SM} {n : Nat} {g : Int} {K K' : Nat} (h : SP D S n g K) (hK : K ≤ K') : SP D S n g K' :=
  { h with g0 := ⟨h.g0.1, by have := h.g0.2; omega⟩, kK := ⟨by have := h.kK.1; omega, by have := h.kK.2; omega⟩ }
theorem SP.apart {D : DM} {S : SM} {n : Nat} {g : Int} {K : Nat} (h : SP D S n g K) : (h.fA : Int) + n ≤ h.fB ∨ (h.fB : Int) + n ≤ h.fA := by
  rcases h.place with ⟨h1, h2, _⟩ | ⟨h1, h2, _⟩ <;> omega
theorem SP.add {D : DM} {S : SM} {n : Nat} {g : Int} {K : Nat} (h : SP D S n g K) {rows : List (List Int)} (hk : packOk rows) (hr : ((packB rows).length : Int) ≤ 64 * ((n : Int) - 2) - S.bA.length) (hb : ∀ r ∈ rows, bytes256 r) (hK : K < 1000000) :
    (addR D S rows).e = 0 ∧ (addR D S rows).S.recs = S.recs ++ rows ∧ Nonempty (SP (addR D S rows).D (addR D S rows).S n g (K + 1)) := by
  by_cases hne : rows = []
  · subst hne
    have e : addR D S [] = ⟨0, D, S⟩ := by
      unfold addR
      rw [if_neg (by rw [h.ov]; simp), if_neg (fun h' => h' hk), if_pos rfl]
    rw [e]
    exact ⟨rfl, (List.append_nil _).symm, ⟨h.more (by omega)⟩⟩
  have hcap : ((S.bA.length : Nat) : Int) + ((packB rows).length : Nat) ≤ 64 * ((n : Int) - 2) := by omega
  have hkA : h.kA < 1000000 := by have := h.kK.1; omega
  obtain ⟨a1, a2, a3, a4⟩ := h.hA.append (b := packB rows) (nt' := h.ntA) hcap hkA h.hA.note
  obtain ⟨o1, o2⟩ := h.hA.out (b := packB rows) (nt' := h.ntA) hcap hkA h.hA.note
  rw [← h.eA] at a1 a2 a3 a4 o1 o2
  have eN : S.LA.note = h.ntA := by rw [h.eA]
  have eM : S.LA.most = 64 * ((n : Int) - 2) := by rw [h.eA]
  obtain ⟨c1, c2, c3⟩ := addR_ok (D := D) (S := S) (rows := rows) h.ov hk hne (by rw [eM]; exact hr) (by rw [eN]; exact a1)
  rw [eN] at c2 c3
  have hpb : S.bA ++ packB rows = packB (S.recs ++ rows) := by rw [h.pk, packB_append]
  refine ⟨c1, by rw [c3], ⟨?_⟩⟩
  rw [c2, c3, a3, a4]
  refine ⟨h.fA, h.kA + 1, h.ntA, h.fB, h.kB, h.ntB, by rw [o1]; exact h.hn, h.n3, h.place, a2, h.hB.keep a2.sure o1 fun j h1 h2 => o2 j ?_, rfl, h.eB, hpb, fun r hr => ?_, rfl, h.gen, ⟨h.g0.1, by have := h.g0.2; omega⟩, ⟨by have := h.kK.1; omega, by have := h.kK.2; omega⟩, append_loose a1, fun z hz => ?_, h.b2⟩
  · rcases h.apart with hp | hp <;> omega
  · rcases List.mem_append.1 hr with h1 | h1
    · exact h.ok r h1
    · exact hk r h1
  · rcases List.mem_append.1 hz with h1 | h1
    · exact h.b1 z h1
    · exact packB_bytes hb z h1
theorem nt8g_gen {g : Int} (h0 : 0 ≤ g) (h1 : g < 1000000) : bigI ((nt8g g).take 8) = g + 1 ∧ (nt8g g).length = 16 := by
  have hw : IntKind.u64.wrap (g + 1) = g + 1 := wrap_u64 (by omega) (by omega)
  unfold nt8g
  rw [hw]
  exact ⟨big_be8 (by omega) (by omega), rfl⟩
theorem SP.comp {D : DM} {S : SM} {n : Nat} {g : Int} {K : Nat} (h : SP D S n g K) {rows : List (List Int)} (hk : packOk rows) (hr : ((packB rows).length : Int) ≤ 64 * ((n : Int) - 2)) (hb : ∀ r ∈ rows, bytes256 r) (hK : K < 100000) :
    (compR D S rows).e = 0 ∧ (compR D S rows).S.recs = rows ∧ Nonempty (SP (compR D S rows).D (compR D S rows).S n (g + 1) (K + 2)) := by
  have hkB : h.kB < 1000000 := by have := h.kK.2; omega
  have gA : genI S.LA = g := by unfold genI; rw [h.eA]; exact h.gen
  have gR := h.g0
  obtain ⟨gn, gl⟩ := nt8g_gen (g := g) gR.1 (by omega)
  obtain ⟨a1, a2, a3, a4, a5, a6⟩ := h.hB.clear hkB
  rw [← h.eB] at a1 a2 a3 a4 a5 a6
  have hcap : (((([] : List Int).length : Nat)) : Int) + ((packB rows).length : Nat) ≤ 64 * ((n : Int) - 2) := by simpa using hr
  obtain ⟨c1, c2, c3, c4⟩ := a2.append (b := packB rows) (nt' := nt8g g) hcap (by have := h.kK.2; omega) gl
  obtain ⟨o1, o2⟩ := a2.out (b := packB rows) (nt' := nt8g g) hcap (by have := h.kK.2; omega) gl
  have eL : (clearR D S.LB S.bB).L = ⟨h.fB, 64 * ((n : Int) - 2), ((h.kB + 1 : Nat) : Int), (([] : List Int).length : Nat), h.ntB, false⟩ := a4
  rw [← eL] at c1 c2 c3 c4 o1 o2
  have eR : renewR D (genI S.LA) S.LB S.bB (packB rows) = appendR (clearR D S.LB S.bB).D (clearR D S.LB S.bB).L [] (packB rows) (nt8g g) := by
    unfold renewR
    rw [if_neg (by simp [a1]), a3, gA]
  have eM : S.LB.most = 64 * ((n : Int) - 2) := by rw [h.eB]
  have eC : compR D S rows = ⟨0, (appendR (clearR D S.LB S.bB).D (clearR D S.LB S.bB).L [] (packB rows) (nt8g g)).D, ⟨(appendR (clearR D S.LB S.bB).D (clearR D S.LB S.bB).L [] (packB rows) (nt8g g)).L, (appendR (clearR D S.LB S.bB).D (clearR D S.LB S.bB).L [] (packB rows) (nt8g g)).bs, S.LA, S.bA, rows, S.over⟩⟩ := by
    unfold compR
    rw [if_neg (by rw [h.ov]; simp), if_neg (fun h' => h' hk), if_neg (by rw [eM]; omega), eR]
    unfold compD
    rw [c1, if_pos numC_zero]
  rw [eC, c3, c4]
  refine ⟨rfl, rfl, ⟨?_⟩⟩
  have keepA := h.hA.keep (D' := (appendR (clearR D S.LB S.bB).D (clearR D S.LB S.bB).L [] (packB rows) (nt8g g)).D) c2.sure (o1.trans a5) fun j h1 h2 => by
    have hp : (j : Int) < 64 * h.fB ∨ 64 * (h.fB + (n : Int)) ≤ (j : Int) := by rcases h.apart with hp | hp <;> omega
    exact (o2 j hp).trans (a6 j hp)
  refine ⟨h.fB, h.kB + 1 + 1, nt8g g, h.fA, h.kA, h.ntA, by show (appendR _ _ _ _ _).D.n / 2 = n; rw [o1, a5]; exact h.hn, h.n3, ?_, c2, keepA, rfl, h.eA, rfl, hk, h.ov, gn, ⟨by omega, by omega⟩, ⟨by have := h.kK.2; omega, by have := h.kK.1; omega⟩, append_loose c1, fun z hz => packB_bytes hb z hz, h.b1⟩
  have hgen := h.gen
  rcases h.place with ⟨h1, h2, h3⟩ | ⟨h1, h2, h3⟩
  · exact Or.inr ⟨h2, h1, by omega⟩
  · exact Or.inl ⟨h2, h1, by omega⟩
theorem SP.new {m : Nat} (h : 6 ≤ m ∧ m ≤ 16384) : Nonempty (SP (newD m) (sOpen (newD m)) (m / 2) 0 0) ∧ (sOpen (newD m)).recs = [] ∧ sOpenE (newD m) = 0 := by
  obtain ⟨e1, e2⟩ := sOpen_new h
  rw [e2]
  have hn : (newD m).n = m := by show sects m = m; unfold sects; omega
  have hA : Holds (newD m) 0 ((m / 2 : Nat) : Int) 0 [] z16 := newD_holds (by omega) (by omega) (by omega)
  have hB : Holds (newD m) (m / 2) ((m / 2 : Nat) : Int) 0 [] z16 := newD_holds (by omega) (by omega) (by omega)
  have hz : bigI (z16.take 8) = 0 := by decide
  exact ⟨⟨⟨0, 0, z16, m / 2, 0, z16, by rw [hn], by omega, Or.inl ⟨rfl, rfl, by rw [hz]; exact Int.le_refl 0⟩, hA, hB, rfl, rfl, rfl, fun r hr => (by cases hr), rfl, hz, ⟨Int.le_refl 0, Int.le_refl 0⟩, ⟨Nat.le_refl _, Nat.le_refl _⟩, rfl, fun z hz => (by cases hz), fun z hz => (by cases hz)⟩⟩, rfl, e1⟩
end Go.Proofs.YtomdimlnggpgbaaGreatDoor
namespace Go.Proofs.YtomdimlnggpgbaaGreatDoor.D
open Go Go.Sx
def stays (k : Int) (j : Nat) : Bool := if k < 128 then decide ((j : Int) < k) else decide (64 - (k - 128) ≤ (j : Int))
def tornI (was now : List Int) (k : Int) : List Int := (List.range 64).map fun j => if stays k j then now.getD j 0 else was.getD j 0
def cell64 : List Ck := List.replicate 64 (.int .u8)
def tornG (xs : List Value) : Value := match xs with
  | [a, b, .int _ k] => .agg (bys (tornI (intsOf a) (intsOf b) k)).toArray
  | _ => .bool false
def tornN (xs : List Value) : Prop := match xs with
  | [_, _, .int _ k] => 0 ≤ k ∧ k < 256
  | _ => False
def tornS : Sx.Spec := pureS 59 [.agg cell64, .agg cell64, .one (.int .u8)] [.agg cell64] tornN tornG
def eM : E := (.ite (.lt (.lit 64) (.wrap .i64 (.rem (.var 128) (.lit 128)))) (.lit 64) (.wrap .i64 (.rem (.var 128) (.lit 128))))
def eD : E := (.wrap .i64 (.sub (.lit 64) eM))
def eO : E := (.ite (.eq (.lit 64) eD) (.lit 0) eD)
def tornA : List CV := (List.range 64).map fun (j : Nat) => .int .u8 (.ite (.lt (.lit (j : Int)) eM) (.var (64 + j)) (.var j))
def tornB : List CV := (List.range 64).map fun (j : Nat) => .int .u8 (.ite (.and (.le eO (.lit (j : Int))) (.lt (.lit (j : Int)) (.add eO (.sub (.lit 64) eD)))) (.var (64 + j)) (.var j))
def tornNd : Nd := .ext (.alloc 129) (.ext (.alloc 130) (.ext (.alloc 131) (.and (.imp (.lt (.var 128) (.lit 128)) (.and (.e (.le (.lit 0) eM)) (.and (.e (.le eM (.lit 64))) (.and (.e (.and (.le (.lit 0) eM) (.and (.le (.lit 0) eM) (.le eM (.lit 64))))) (.post [.dead, .dead, .dead] (.sv (.agg tornA))))))) (.imp (.not (.lt (.var 128) (.lit 128))) (.and (.e (.le (.lit 0) eD)) (.and (.e (.le eD (.lit 64))) (.and (.e (.and (.le (.lit 0) eO) (.and (.le (.lit 0) (.sub (.lit 64) eD)) (.and (.le (.lit 0) (.sub (.lit 64) eD)) (.le (.add eO (.sub (.lit 64) eD)) (.lit 64)))))) (.post [.dead, .dead, .dead] (.sv (.agg tornB))))))))))
def tornW : Walk Tryz.prog [] 59 where
  Λ := noLoops
  args := (cpSVs 0 [.agg cell64, .agg cell64, .one (.int .u8)]).map .sv
  mem := []
  nv := 129
  nd := tornNd
  ok := by kernel_rfl
theorem tornI_length (a b : List Int) (k : Int) : (tornI a b k).length = 64 := by simp [tornI]
set_option maxRecDepth 20000 in
theorem tornS_ok : tornS.OK Tryz.prog := by
  refine pure_of (fun t h => by cases h) tornW rfl rfl rfl (fun q _ _ => ?_) (fun q hq hN => ⟨fun _ _ => True, fun _ _ => 0, ?_⟩)
  · obtain ⟨ρ, _, _, e⟩ := row_rep cell64 0 (bys (tornI (intsOf ((SV.agg (ckCVs 0 cell64)).ev q)) (intsOf ((SV.agg (ckCVs 64 cell64)).ev q)) (q.i 128))) q (rowOK_bys 64 _ (tornI_length _ _ _))
    exact ⟨ρ, by show Value.agg _ = Value.agg ((ckCVs 0 cell64).map (CV.ev ρ)).toArray; rw [e]; rfl, ckNorms_pure _ _ _ (by decide), trivial⟩
  · have hN : 0 ≤ q.i 128 ∧ q.i 128 < 256 := hN
    obtain ⟨k0, k1⟩ := hN
    have eG : tornG (inVs [.agg cell64, .agg cell64, .one (.int .u8)] q) = .agg (bys (tornI ((List.range 64).map fun j => q.i j) ((List.range 64).map fun j => q.i (64 + j)) (q.i 128))).toArray := rfl
    simp only [eG]
    show Nd.holds _ _ _ tornNd
    unfold tornNd
    simp only [Nd.holds, X.pre, X.rel, X.n, Src.ok, Src.len, Src.vals, true_and, and_true, if_true, Nat.mul_one, Nat.add_zero, Nat.reduceAdd, List.length_cons, List.length_nil, bT_tt, bT_ff, bT_bvar, bT_not, bT_and, bT_or, bT_ite, bT_lt, bT_le, bT_eq, bT_beq, bT_seq, bT_hB, bT_his, bT_hby, bT_hism, bT_hks, iev_lit, iev_var, iev_add, iev_sub, iev_mul, iev_wrap, iev_ite, iev_hI, iev_hP, iev_hmlen, sev_ite, sev_slit, sev_sof, sev_svar, TV.ev, SV.ev, CV.ev, List.map_cons, List.map_nil, Res.hl]
    intro q1 g1 _ q2 g2 _ q3 g3 _
    have G : Agree 129 q q3 := (g1.trans (g2.mono (by omega))).trans (g3.mono (by omega))
    have j128 : q3.i 128 = q.i 128 := G.i 128 (by omega)
    have w0 : IntKind.i64.wrap ((q3.i 128).tmod 128) = (q.i 128).tmod 128 := by
      rw [j128]
      have h1 := Int.tmod_nonneg 128 k0
      have h2 := Int.tmod_lt_of_pos (q.i 128) (by decide : (0 : Int) < 128)
      exact wrap_i64 (by omega) (by omega)
    have m0 : 0 ≤ (q.i 128).tmod 128 := Int.tmod_nonneg _ k0
    have m1 : (q.i 128).tmod 128 < 128 := Int.tmod_lt_of_pos _ (by decide)
    have m2 : (q.i 128).tmod 128 = if q.i 128 < 128 then q.i 128 else q.i 128 - 128 := by
      rw [Int.tmod_eq_emod_of_nonneg k0]; split <;> omega
    have hM : iev q3 eM = min ((q.i 128).tmod 128) 64 := by
      unfold eM
      simp only [iev_ite, iev_wrap, iev_rem, iev_var, iev_lit, bev_lt, w0, decide_eq_true_eq]
      split <;> omega
    have hD : iev q3 eD = 64 - min ((q.i 128).tmod 128) 64 := by
      unfold eD
      rw [iev_wrap, iev_sub, iev_lit, hM]
      exact wrap_i64 (by omega) (by omega)
    have hO : iev q3 eO = if min ((q.i 128).tmod 128) 64 = 0 then 0 else 64 - min ((q.i 128).tmod 128) 64 := by
      unfold eO
      simp only [iev_ite, bev_eq, iev_lit, hD, decide_eq_true_eq]
      split <;> split <;> omega
    rw [hM, hD, hO, j128]
    have out : ∀ (l : List CV) (c : Nat → E), l = (List.range 64).map (fun (j : Nat) => CV.int .u8 (.ite (c j) (.var (64 + j)) (.var j))) → (∀ j : Nat, j < 64 → bev q3 (c j) = stays (q.i 128) j) →
        (TV.sv (.agg l)).ev q3 = .agg (bys (tornI ((List.range 64).map fun j => q.i j) ((List.range 64).map fun j => q.i (64 + j)) (q.i 128))).toArray := by
      intro l c hl hc
      subst hl
      show Value.agg (List.map (CV.ev q3) _).toArray = _
      congr 2
      unfold tornI bys
      rw [List.map_map, List.map_map]
      refine List.map_congr_left fun j hj => ?_
      have hj := List.mem_range.1 hj
      show Value.int .u8 (iev q3 (.ite (c j) (.var (64 + j)) (.var j))) = Value.int .u8 _
      rw [iev_ite, hc j hj, iev_var, iev_var, G.i (64 + j) (by omega), G.i j (by omega)]
      have e1 : ((List.range 64).map fun j => q.i (64 + j)).getD j 0 = q.i (64 + j) := by rw [List.getD_eq_getElem?_getD, List.getElem?_map, List.getElem?_range hj]; rfl
      have e2 : ((List.range 64).map fun j => q.i j).getD j 0 = q.i j := by rw [List.getD_eq_getElem?_getD, List.getElem?_map, List.getElem?_range hj]; rfl
      show _ = Value.int .u8 (if stays (q.i 128) j = true then ((List.range 64).map fun j => q.i (64 + j)).getD j 0 else ((List.range 64).map fun j => q.i j).getD j 0)
      rw [e1, e2]
    refine ⟨fun hlt => ⟨by omega, by omega, ⟨by omega, by omega, by omega⟩, out tornA (fun j => .lt (.lit (j : Int)) eM) rfl fun j hj => ?_⟩, fun hge => ⟨by omega, by omega, ⟨by split <;> omega, by omega, by omega, by split <;> omega⟩, out tornB (fun j => .and (.le eO (.lit (j : Int))) (.lt (.lit (j : Int)) (.add eO (.sub (.lit 64) eD)))) rfl fun j hj => ?_⟩⟩
    · rw [bev_lt, iev_lit, hM]
      unfold stays
      rw [if_pos hlt]
      rw [if_pos hlt] at m2
      congr 1
      exact propext ⟨fun h => by omega, fun h => by omega⟩
    · rw [bev_and, bev_le, bev_lt, iev_lit, iev_add, iev_sub, iev_lit, hD, hO]
      unfold stays
      rw [if_neg hge]
      rw [if_neg hge] at m2
      rw [← Bool.decide_and]
      congr 1
      refine propext ⟨fun h => ?_, fun h => ?_⟩
      · split at h <;> omega
      · split <;> omega
end Go.Proofs.YtomdimlnggpgbaaGreatDoor.D
namespace Go.Proofs.YtomdimlnggpgbaaGreatDoor.D
open Go.Shelf
def keysA_ren : Go.Shelf.Ren := ⟨fun | 7 => 58 | 10 => 95 | n => n, fun | 23 => 91 | 26 => 3 | 3 => 119 | 28 => 116 | 0 => 0 | 27 => 115 | 33 => 160 | 4 => 4 | n => n, fun | n => n⟩
theorem keysA : Go.Proofs.SlLaysZI.n7 Tryz.prog keysA_ren := {
  mixed := by kernel_rfl
  f7 := ⟨Tryz.f58.name, by decide, Tryz.func58.trans (congrArg some (by kernel_rfl))⟩
  f10 := ⟨Tryz.f95.name, by decide, Tryz.func95.trans (congrArg some (by kernel_rfl))⟩
  t0 := Tryz.underlying0
  a0 := Tryz.isAgg0
  z0 := Tryz.sizeOf0
  v0 := Tryz.zeroValue0
  t4 := Tryz.underlying4
  a4 := Tryz.isAgg4
  z4 := Tryz.sizeOf4
  v4 := Tryz.zeroValue4
  t23 := Tryz.underlying91
  a23 := Tryz.isAgg91
  z23 := Tryz.sizeOf91
  v23 := Tryz.zeroValue91
  t26 := Tryz.underlying3
  a26 := Tryz.isAgg3
  z26 := Tryz.sizeOf3
  v26 := Tryz.zeroValue3
  t27 := Tryz.underlying115
  a27 := Tryz.isAgg115
  z27 := Tryz.sizeOf115
  v27 := Tryz.zeroValue115
  t28 := Tryz.underlying116
  a28 := Tryz.isAgg116
  z28 := Tryz.sizeOf116
  v28 := Tryz.zeroValue116
  t33 := Tryz.underlying160
  a33 := Tryz.isAgg160
  z33 := Tryz.sizeOf160
  v33 := Tryz.zeroValue160 }
def sortedA_ren : Go.Shelf.Ren := ⟨fun | 6 => 57 | 8 => 93 | 9 => 94 | 11 => 133 | 13 => 135 | 12 => 134 | 23 => 170 | 24 => 171 | 14 => 161 | 15 => 162 | 16 => 163 | 17 => 164 | 18 => 165 | 19 => 166 | 20 => 167 | 21 => 168 | 22 => 169 | 25 => 187 | 26 => 188 | 27 => 189 | 28 => 190 | 29 => 191 | 30 => 192 | 31 => 203 | n => n, fun | 26 => 3 | 28 => 116 | 24 => 113 | 0 => 0 | 3 => 3 | 37 => 201 | 48 => 170 | 50 => 32 | 4 => 4 | 40 => 257 | 39 => 256 | 45 => 35 | 5 => 5 | 9 => 9 | 51 => 280 | 55 => 283 | 57 => 293 | 58 => 294 | 33 => 160 | n => n, fun | n => n⟩
theorem sortedA : Go.Proofs.SlLaysZI.n6 Tryz.prog sortedA_ren := {
  mixed := by kernel_rfl
  f6 := ⟨Tryz.f57.name, by decide, Tryz.func57.trans (congrArg some (by kernel_rfl))⟩
  f8 := ⟨Tryz.f93.name, by decide, Tryz.func93.trans (congrArg some (by kernel_rfl))⟩
  f11 := ⟨Tryz.f133.name, by decide, Tryz.func133.trans (congrArg some (by kernel_rfl))⟩
  t0 := Tryz.underlying0
  a0 := Tryz.isAgg0
  z0 := Tryz.sizeOf0
  v0 := Tryz.zeroValue0
  t24 := Tryz.underlying113
  a24 := Tryz.isAgg113
  z24 := Tryz.sizeOf113
  v24 := Tryz.zeroValue113
  t26 := Tryz.underlying3
  a26 := Tryz.isAgg3
  z26 := Tryz.sizeOf3
  v26 := Tryz.zeroValue3
  t28 := Tryz.underlying116
  a28 := Tryz.isAgg116
  z28 := Tryz.sizeOf116
  v28 := Tryz.zeroValue116
  i26 := by kernel_rfl }
def sortA_ren : Go.Shelf.Ren := ⟨fun | 5 => 94 | 8 => 135 | 7 => 134 | 19 => 170 | 20 => 171 | 10 => 161 | 11 => 162 | 12 => 163 | 13 => 164 | 14 => 165 | 15 => 166 | 16 => 167 | 17 => 168 | 18 => 169 | 30 => 187 | 31 => 188 | 32 => 189 | 33 => 190 | 34 => 191 | 35 => 192 | 40 => 203 | n => n, fun | 23 => 113 | 25 => 3 | 3 => 3 | 32 => 201 | 22 => 113 | 0 => 0 | 44 => 170 | 46 => 32 | 4 => 4 | 36 => 257 | 35 => 256 | 41 => 35 | 5 => 5 | 9 => 9 | 53 => 280 | 57 => 283 | 63 => 293 | 64 => 294 | n => n, fun | n => n⟩
theorem sortA : Go.Proofs.SlLaysM.n5 Tryz.prog sortA_ren := {
  mixed := by kernel_rfl
  f5 := ⟨Tryz.f94.name, by decide, Tryz.func94.trans (congrArg some (by kernel_rfl))⟩
  f7 := ⟨Tryz.f134.name, by decide, Tryz.func134.trans (congrArg some (by kernel_rfl))⟩
  f8 := Tryz.func135.trans (congrArg some (by kernel_rfl))
  f10 := ⟨Tryz.f161.name, by decide, Tryz.func161.trans (congrArg some (by kernel_rfl))⟩
  f11 := ⟨Tryz.f162.name, by decide, Tryz.func162.trans (congrArg some (by kernel_rfl))⟩
  f12 := ⟨Tryz.f163.name, by decide, Tryz.func163.trans (congrArg some (by kernel_rfl))⟩
  f13 := ⟨Tryz.f164.name, by decide, Tryz.func164.trans (congrArg some (by kernel_rfl))⟩
  f14 := ⟨Tryz.f165.name, by decide, Tryz.func165.trans (congrArg some (by kernel_rfl))⟩
  f15 := ⟨Tryz.f166.name, by decide, Tryz.func166.trans (congrArg some (by kernel_rfl))⟩
  f16 := ⟨Tryz.f167.name, by decide, Tryz.func167.trans (congrArg some (by kernel_rfl))⟩
  f17 := ⟨Tryz.f168.name, by decide, Tryz.func168.trans (congrArg some (by kernel_rfl))⟩
  f18 := ⟨Tryz.f169.name, by decide, Tryz.func169.trans (congrArg some (by kernel_rfl))⟩
  f19 := Tryz.func170.trans (congrArg some (by kernel_rfl))
  f20 := Tryz.func171.trans (congrArg some (by kernel_rfl))
  f30 := ⟨Tryz.f187.name, by decide, Tryz.func187.trans (congrArg some (by kernel_rfl))⟩
  f31 := Tryz.func188.trans (congrArg some (by kernel_rfl))
  f32 := Tryz.func189.trans (congrArg some (by kernel_rfl))
  f33 := ⟨Tryz.f190.name, by decide, Tryz.func190.trans (congrArg some (by kernel_rfl))⟩
  f34 := ⟨Tryz.f191.name, by decide, Tryz.func191.trans (congrArg some (by kernel_rfl))⟩
  f35 := ⟨Tryz.f192.name, by decide, Tryz.func192.trans (congrArg some (by kernel_rfl))⟩
  f40 := ⟨Tryz.f203.name, by decide, Tryz.func203.trans (congrArg some (by kernel_rfl))⟩
  t0 := Tryz.underlying0
  a0 := Tryz.isAgg0
  z0 := Tryz.sizeOf0
  v0 := Tryz.zeroValue0
  t3 := Tryz.underlying3
  a3 := Tryz.isAgg3
  z3 := Tryz.sizeOf3
  v3 := Tryz.zeroValue3
  t4 := Tryz.underlying4
  a4 := Tryz.isAgg4
  z4 := Tryz.sizeOf4
  v4 := Tryz.zeroValue4
  t5 := Tryz.underlying5
  a5 := Tryz.isAgg5
  z5 := Tryz.sizeOf5
  v5 := Tryz.zeroValue5
  t9 := Tryz.underlying9
  a9 := Tryz.isAgg9
  z9 := Tryz.sizeOf9
  v9 := Tryz.zeroValue9
  t22 := Tryz.underlying113
  a22 := Tryz.isAgg113
  z22 := Tryz.sizeOf113
  v22 := Tryz.zeroValue113
  t23 := Tryz.underlying113
  a23 := Tryz.isAgg113
  z23 := Tryz.sizeOf113
  v23 := Tryz.zeroValue113
  t25 := Tryz.underlying3
  a25 := Tryz.isAgg3
  z25 := Tryz.sizeOf3
  v25 := Tryz.zeroValue3
  t32 := Tryz.underlying201
  a32 := Tryz.isAgg201
  z32 := Tryz.sizeOf201
  v32 := Tryz.zeroValue201
  t35 := Tryz.underlying256
  a35 := Tryz.isAgg256
  z35 := Tryz.sizeOf256
  v35 := Tryz.zeroValue256
  t36 := Tryz.underlying257
  a36 := Tryz.isAgg257
  z36 := Tryz.sizeOf257
  v36 := Tryz.zeroValue257
  t41 := Tryz.underlying35
  a41 := Tryz.isAgg35
  z41 := Tryz.sizeOf35
  v41 := Tryz.zeroValue35
  t44 := Tryz.underlying170
  a44 := Tryz.isAgg170
  z44 := Tryz.sizeOf170
  v44 := Tryz.zeroValue170
  t46 := Tryz.underlying32
  a46 := Tryz.isAgg32
  z46 := Tryz.sizeOf32
  v46 := Tryz.zeroValue32
  t53 := Tryz.underlying280
  a53 := Tryz.isAgg280
  z53 := Tryz.sizeOf280
  v53 := Tryz.zeroValue280
  t57 := Tryz.underlying283
  a57 := Tryz.isAgg283
  z57 := Tryz.sizeOf283
  v57 := Tryz.zeroValue283
  t63 := Tryz.underlying293
  a63 := Tryz.isAgg293
  z63 := Tryz.sizeOf293
  v63 := Tryz.zeroValue293
  t64 := Tryz.underlying294
  a64 := Tryz.isAgg294
  z64 := Tryz.sizeOf294
  v64 := Tryz.zeroValue294 }
end Go.Proofs.YtomdimlnggpgbaaGreatDoor.D
namespace Go.Proofs.YtomdimlnggpgbaaGreatDoor.D
open Go Go.Sx Go.RowKit Go.Maps Go.Sort Go.Shelf
abbrev fSorted : FuncId := 57
abbrev fKeys1 : FuncId := 95
theorem sortsA (m : Nat) : AnyZI.SortsIn Tryz.prog sortedA_ren Fence.wide m :=
  ⟨fun blk off cap ss W hH hblk hsz => callsIn_wide.2 (AnyM.slices_Sort_int sortA blk off cap ss W hH hblk hsz),
   fun p cap W => callsIn_wide.2 (AnyM.slices_Sort_int_none sortA p cap W)⟩
def sortK (l : List Int) : List Int := l.mergeSort (fun x y => decide (x ≤ y))
theorem sortK_perm {a b : List Int} (h : a.Perm b) : sortK a = sortK b := by
  unfold sortK
  have tr : ∀ (a b c : Int), decide (a ≤ b) = true → decide (b ≤ c) = true → decide (a ≤ c) = true := fun a b c h1 h2 => decide_eq_true (by have := of_decide_eq_true h1; have := of_decide_eq_true h2; omega)
  have tt : ∀ (a b : Int), (decide (a ≤ b) || decide (b ≤ a)) = true := fun a b => by
    rcases Int.le_total a b with h | h <;> simp [h]
  refine List.Perm.eq_of_pairwise (le := fun a b => decide (a ≤ b) = true) (fun a b _ _ h1 h2 => by have := of_decide_eq_true h1; have := of_decide_eq_true h2; omega) (List.pairwise_mergeSort tr tt a) (List.pairwise_mergeSort tr tt b) ?_
  exact ((List.mergeSort_perm a _).trans h).trans (List.mergeSort_perm b _).symm
theorem sortK_length (l : List Int) : (sortK l).length = l.length := (List.mergeSort_perm l _).length_eq
theorem sortK_mem {l : List Int} {x : Int} : x ∈ sortK l ↔ x ∈ l := (List.mergeSort_perm l _).mem_iff
def trivR (_ : Value) : Option (DataW Unit × List MemPlace) := some (.nil, [])
theorem key_rd {es : Array MapEntry} {l : List (Int × Value)} (hM : MapIs .i64 es l) (hr : ∀ p ∈ l, -9223372036854775808 ≤ p.1 ∧ p.1 ≤ 9223372036854775807) : ∀ x ∈ es.toList, ∃ n : Int, x.key = .int .i64 n ∧ WideElems.rd Tryz.prog 3 trivR x = some (.int .i64 n, .nil) := by
  intro x hx
  have : (x.key, x.val) ∈ l.map fun p => (Value.int .i64 p.1, p.2) := by
    rw [← show es.toList.map (fun e => (e.key, e.val)) = _ from hM]
    exact List.mem_map.2 ⟨x, hx, rfl⟩
  obtain ⟨q, hq, e⟩ := List.mem_map.1 this
  rw [Prod.mk.injEq] at e
  have hb := hr q hq
  refine ⟨q.1, e.1.symm, ?_⟩
  have hw : (Lit.int .i64 q.1).wf = true := by
    simp only [Lit.wf, IntKind.min, IntKind.max, IntKind.signed, IntKind.bits, Bool.and_eq_true, decide_eq_true_eq]
    simp
    omega
  unfold WideElems.rd keyOf
  rw [← e.1]
  simp only [Tryz.underlying3]
  unfold mapKey
  simp only [Tryz.underlying3, hw]
  rfl
theorem sorted_calls (Bm b : Nat) {es : Array MapEntry} {clock : Nat} {l : List (Int × Value)} (w : World) (hBm : Bm < w.heap.size) (hm : w.cell? ⟨Bm, 0, none⟩ = some (.map (some b))) (hb : w.heap[b]? = some (.map es clock)) (hM : MapIs .i64 es l) (hst : MapKept.Stamped es clock)
    (hr : ∀ p ∈ l, -9223372036854775808 ≤ p.1 ∧ p.1 ≤ 9223372036854775807) (hsz : l.length ≤ 1000000) :
    Calls Tryz.prog fSorted #[.func (.func fKeys1) #[] #[.pointer (some ⟨Bm, 0, none⟩)]] w fun e w' => ∃ v, e = .returned v ∧ w'.ownsRow w.heap.size 3 1 v l.length ((sortK (l.map (·.1))).map (Value.int .i64)) ∧ RowKit.Below w.heap.size w w' := by
  have hsize : es.size = l.length := hM.size
  have hrd := key_rd hM hr
  have hown : w.ownsMap Tryz.prog 3 trivR b l.length (.map ((es.toList.map (WideElems.rg Tryz.prog 3 trivR)).foldr DataW.insert [])) :=
    ⟨es, clock, hb, ⟨by rw [hsize]; unfold maxLen; omega, hst, fun x hx => by obtain ⟨n, _, h⟩ := hrd x hx; exact ⟨_, h⟩⟩, by rw [hsize]; exact Nat.le_refl _, rfl⟩
  have hms : Maps.size (.map ((es.toList.map (WideElems.rg Tryz.prog 3 trivR)).foldr DataW.insert [])) = l.length := by
    show ((es.toList.map (WideElems.rg Tryz.prog 3 trivR)).foldr DataW.insert []).length = _
    rw [DataW.length_sorted, List.length_map, Array.length_toList, hsize]
  have hseq : SeqGives Fence.wide 2 Tryz.prog fKeys1 #[.pointer (some ⟨Bm, 0, none⟩)] encZ (fun ss => ss.Perm (intKeys (.map ((es.toList.map (WideElems.rg Tryz.prog 3 trivR)).foldr DataW.insert [])))) (Maps.size (.map ((es.toList.map (WideElems.rg Tryz.prog 3 trivR)).foldr DataW.insert []))) w :=
    AnyZI.keys_gives (ρ := keysA_ren) { keysA with } Fence.wide _ trivial rfl (by omega) Bm b l.length _ w hBm hm hown
  have cS := AnyZI.sorted_in sortedA Fence.wide 5 trivial trivial trivial trivial rfl (by omega) (sortsA _) (enters_of Tryz.func94 (by kernel_rfl) rfl) fKeys1 #[.pointer (some ⟨Bm, 0, none⟩)] trivial (enters_of Tryz.func95 (by kernel_rfl) rfl) _ _ (by rw [hms]; unfold maxLen; omega) (by rw [hms]; omega) _ hseq
  have cS := callsIn_wide.1 cS
  refine Calls.mono cS ?_
  rintro e w' ⟨v, ss, rfl, hS, hrow, _, hbl⟩
  have hp : ss.Perm (l.map (·.1)) := by
    refine hS.trans ?_
    simp only [intKeys]
    refine ((WideShapes.sorted_perm _).map _).trans (List.Perm.of_eq ?_)
    have h1 : es.toList.map (fun e => e.key) = l.map fun p => Value.int .i64 p.1 := by
      have := congrArg (List.map Prod.fst) (show es.toList.map (fun e => (e.key, e.val)) = l.map fun p => (Value.int .i64 p.1, p.2) from hM)
      rw [List.map_map, List.map_map] at this
      exact this
    have h2 : es.toList.map (fun e => valI (some e.key)) = l.map (·.1) := by
      have := congrArg (List.map fun v => valI (some v)) h1
      rw [List.map_map, List.map_map] at this
      exact this
    rw [← h2, List.map_map]
    refine List.map_congr_left fun x hx => ?_
    obtain ⟨n, hk, hd⟩ := hrd x hx
    simp only [Function.comp_apply, WideElems.rg, hd, hk]
    rfl
  have hl : ss.length = l.length := by rw [hp.length_eq, List.length_map]
  have hs : ss.mergeSort (fun x y => decide (x ≤ y)) = sortK (l.map (·.1)) := sortK_perm hp
  rw [hl, hs] at hrow
  exact ⟨v, rfl, hrow, hbl⟩
def sortedS : Sx.Spec where
  fn := fSorted
  own := []
  rd := [0, 200]
  res := [.one .sl]
  pre := fun xs Hs Rs => ∃ (x m : Nat) (es : Array MapEntry) (clock : Nat) (l : List (Int × Value)) (R1 R2 : Hl), xs = [.func (.func fKeys1) #[] #[.pointer (some ⟨x, 0, none⟩)]] ∧ Rs = [R1, R2] ∧ R1.cell x 0 = some (.map (some m)) ∧ R2 m = some (.map es clock) ∧ MapIs .i64 es l ∧ MapKept.Stamped es clock ∧ (∀ p ∈ l, -9223372036854775808 ≤ p.1 ∧ p.1 ≤ 9223372036854775807) ∧ l.length ≤ 1000000
  post := fun xs Hs Rs v Hs' F => ∃ (x m : Nat) (es : Array MapEntry) (clock : Nat) (l : List (Int × Value)) (R1 R2 : Hl), xs = [.func (.func fKeys1) #[] #[.pointer (some ⟨x, 0, none⟩)]] ∧ Rs = [R1, R2] ∧ R1.cell x 0 = some (.map (some m)) ∧ R2 m = some (.map es clock) ∧ MapIs .i64 es l ∧ OwnsH F 3 1 v l.length ((sortK (l.map (·.1))).map (Value.int .i64))
theorem sortedS_ok : sortedS.OK Tryz.prog := by
  intro w xs Hs Rs hl1 hl2 hs1 hs2 hd1 hd2 ⟨x, m, es, clock, l, R1, R2, hx, hR, hc, hm, hM, hst, hr, hsz⟩
  have e0 : Hs = [] := List.length_eq_zero_iff.1 hl1
  subst e0; subst hx; subst hR
  have s1 : R1.sub w := (hs2 R1 (by simp))
  have s2 : R2.sub w := hs2 R2 (by simp)
  have hcell := Hl.sub_cell s1 hc
  have hx : x < w.heap.size := by
    unfold Hl.cell at hc
    split at hc
    · rename_i hb; exact (Array.getElem?_eq_some_iff.1 (s1 _ _ hb)).1
    · cases hc
  refine (sorted_calls x m w hx hcell (s2 _ _ hm) hM hst hr hsz).mono ?_
  rintro e w' ⟨v, rfl, ⟨hlen, hrow⟩, hbl⟩
  have post : ∀ F : Hl, OwnsH F 3 1 v l.length ((sortK (l.map (·.1))).map (Value.int .i64)) → sortedS.post [.func (.func fKeys1) #[] #[.pointer (some ⟨x, 0, none⟩)]] [] [R1, R2] v [] F := fun F hF => ⟨x, m, es, clock, l, R1, R2, rfl, rfl, hc, hm, hM, hF⟩
  rcases hrow with ⟨rfl, hn⟩ | ⟨g, cap, cur, rfl, hg, hcur, hle, hmx, hcs, ht⟩
  · refine ⟨⟨fun k => [-1, 0, 0, 0].getD k 0, fun _ => false, fun _ => .empty, fun _ => .tuple #[], fun _ => Hl.none⟩, [], Hl.none, rfl, ⟨⟨by show (-1 : Int) ≤ -1; omega, Int.le_refl _, Int.le_refl _, Int.le_refl _⟩, trivial⟩, ⟨hbl.os, hbl.tape, hbl.output, hbl.size, fun b hl _ => hbl.block b hl, rfl, (fun _ h => nomatch h), (fun _ _ h => nomatch h), (fun _ h => nomatch h), (fun b h => by simp [Hl.mem, Hl.none] at h), (fun p _ _ _ _ h => by simp at h), (fun _ h => nomatch h)⟩, post _ ⟨hlen, Or.inl ⟨rfl, hn⟩⟩⟩
  · refine ⟨⟨fun k => [(g : Int), 0, l.length, cap].getD k 0, fun _ => false, fun _ => .empty, fun _ => .tuple #[], fun _ => Hl.none⟩, [], Hl.one g (.cells cur 3 (0, 0)), ?_, ⟨⟨by show (-1 : Int) ≤ (g : Int); omega, Int.le_refl _, by show (0 : Int) ≤ (l.length : Int); omega, by show (0 : Int) ≤ (cap : Int); omega⟩, trivial⟩, ⟨hbl.os, hbl.tape, hbl.output, hbl.size, fun b hl _ => hbl.block b hl, rfl, (fun _ h => nomatch h), ?_, (fun _ h => nomatch h), ?_, (fun p _ _ _ _ h => by simp at h), (fun _ h => nomatch h)⟩, ?_⟩
    · show _ = Ending.returned (Value.slice (slP (g : Int) 0) ((l.length : Int)).toNat ((cap : Int)).toNat)
      rw [slP_pos (by omega), Int.toNat_natCast, Int.toNat_natCast, Int.toNat_natCast]; rfl
    · intro b o hb
      obtain ⟨rfl, rfl⟩ := Hl.one_eq hb
      exact hcur
    · intro b hb
      rw [Hl.one_mem] at hb
      subst hb; exact Or.inr hg
    · have e : (cpTV 0 sortedS.res).ev ⟨fun k => [(g : Int), 0, l.length, cap].getD k 0, fun _ => false, fun _ => .empty, fun _ => .tuple #[], fun _ => Hl.none⟩ = .slice (some ⟨g, 0, none⟩) l.length cap := by
        show Value.slice (slP (g : Int) 0) ((l.length : Int)).toNat ((cap : Int)).toNat = _
        rw [slP_pos (by omega), Int.toNat_natCast, Int.toNat_natCast, Int.toNat_natCast]; rfl
      rw [e]
      exact post _ ⟨hlen, Or.inr ⟨g, cap, cur, rfl, Hl.one_self _ _, hle, hmx, hcs, ht⟩⟩
end Go.Proofs.YtomdimlnggpgbaaGreatDoor.D
namespace Go.Proofs.YtomdimlnggpgbaaGreatDoor.D
open Go Go.Sx
def fateAt (fate : List Int) (i : Nat) : Int := if fate = [] then 0 else fate.getD (i % fate.length) 0
def wasOf (loose : List (Int × List Int)) (k : Int) : List Int := match loose.find? fun p => p.1 == k with
  | some p => p.2
  | none => []
def secOf (now : List Int) (k : Int) : List Int := (now.drop (64 * k.toNat)).take 64
def crashN (loose : List (Int × List Int)) (fate now ks : List Int) : Nat → List Int
  | 0 => now
  | i + 1 => splice (crashN loose fate now ks i) (64 * (ks.getD i 0).toNat) (tornI (wasOf loose (ks.getD i 0)) (secOf (crashN loose fate now ks i) (ks.getD i 0)) (fateAt fate i))
def crashD (D : DM) (fate : List Int) : DM := ⟨D.n, crashN D.loose fate D.now (sortK (D.loose.map (·.1))) D.loose.length, [], -1, false⟩
theorem crashN_length {D : DM} (h : D.ok) (fate ks : List Int) (hk : ∀ k ∈ ks, 0 ≤ k ∧ k < D.n) : ∀ i, i ≤ ks.length → (crashN D.loose fate D.now ks i).length = 64 * D.n
  | 0, _ => h.now
  | i + 1, hi => by
    have ih := crashN_length h fate ks hk i (by omega)
    have hm : ks.getD i 0 ∈ ks := by
      rw [List.getD_eq_getElem?_getD, List.getElem?_eq_getElem (by omega), Option.getD_some]
      exact List.getElem_mem _
    have hb := hk _ hm
    unfold crashN
    rw [splice_length (by rw [tornI_length, ih]; omega), ih]
theorem crashD_ok {D : DM} (h : D.ok) (fate : List Int) : (crashD D fate).ok := by
  refine ⟨crashN_length h fate _ (fun k hk => ?_) _ (by rw [sortK_length, List.length_map]; exact Nat.le_refl _), h.n, by show (-1 : Int) ≤ -1; omega, by show (-1 : Int) ≤ _; omega, fun p hp => by cases hp⟩
  obtain ⟨p, hp, rfl⟩ := List.mem_map.1 (sortK_mem.1 hk)
  exact (h.loose p hp).2
theorem ownI_at {F : Hl} {e : TypeId} {x y l c : Int} {n : Nat} {ks : List Int} (h : OwnsH F e 1 (.slice (slP x y) l.toNat c.toNat) n (ks.map (Value.int .i64))) (hx : -1 ≤ x) (hy : 0 ≤ y) (hl : 0 ≤ l) : l = n ∧ n = ks.length ∧ ∀ j : Nat, j < n → 0 ≤ x ∧ F.cell x.toNat (y.toNat + j) = some (.int .i64 (ks.getD j 0)) := by
  obtain ⟨hlen, h⟩ := h
  rw [List.length_map, Nat.mul_one] at hlen
  rcases h with ⟨h, hn⟩ | ⟨g, cap, cur, h, hg, hle, hm, hs, ht⟩
  · simp only [Value.slice.injEq] at h
    exact ⟨by omega, hlen.symm, fun j hj => by omega⟩
  · simp only [Value.slice.injEq] at h
    obtain ⟨h1, h2, h3⟩ := h
    refine ⟨by omega, hlen.symm, fun j hj => ?_⟩
    have hx0 : 0 ≤ x := by
      rcases Int.lt_or_le x 0 with h | h
      · rw [show x = -1 by omega, slP_nil] at h1; cases h1
      · exact h
    rw [slP_pos hx0] at h1
    simp only [Option.some.injEq, Addr.mk.injEq, and_true] at h1
    obtain ⟨rfl, h1⟩ := h1
    refine ⟨hx0, ?_⟩
    unfold Hl.cell
    rw [hg, h1, Nat.zero_add]
    have : cur.toList[j]? = some (.int .i64 (ks.getD j 0)) := by
      have e : (ks.map (Value.int .i64))[j]? = some (.int .i64 (ks.getD j 0)) := by
        rw [List.getElem?_map, List.getElem?_eq_getElem (by omega), List.getD_eq_getElem?_getD, List.getElem?_eq_getElem (by omega)]; rfl
      rw [← ht, List.getElem?_take, if_pos (by omega)] at e
      exact e
    simpa using this
theorem mapGo_was {loose : List (Int × List Int)} {k : Int} : ∀ (n : Nat), (∃ p ∈ loose, p.1 = k) → ∃ j, mapGo k (lv loose) n = some (j, .agg (bys (wasOf loose k)).toArray) := by
  induction loose with
  | nil => rintro n ⟨p, hp, _⟩; cases hp
  | cons p l ih =>
    rintro n hex
    show ∃ j, (if k = p.1 then some (n, Value.agg (bys p.2).toArray) else mapGo k (lv l) (n + 1)) = _
    by_cases hk : k = p.1
    · subst hk
      rw [if_pos rfl]
      exact ⟨n, by simp [wasOf]⟩
    · rw [if_neg hk]
      obtain ⟨q, hq, e⟩ := hex
      have hq' : q ∈ l := by
        rcases List.mem_cons.1 hq with rfl | h
        · exact absurd e.symm hk
        · exact h
      obtain ⟨j, hj⟩ := ih (n + 1) ⟨q, hq', e⟩
      refine ⟨j, by rw [hj]; simp [wasOf, show (p.1 == k) = false by simpa using fun e => hk e.symm]⟩
theorem wasOf_length {D : DM} (h : D.ok) {k : Int} (hex : ∃ p ∈ D.loose, p.1 = k) : (wasOf D.loose k).length = 64 := by
  unfold wasOf
  split
  · rename_i p hp
    exact (h.loose p (List.mem_of_find?_eq_some hp)).1
  · rename_i hn
    obtain ⟨p, hp, e⟩ := hex
    have := List.find?_eq_none.1 hn p hp
    simp [e] at this
def crashInv (D : DM) (fate : List Int) (s : Nat) (j : Nat) (q : Env) : Prop := match j with
  | 0 => ∃ i : Nat, q.i 30 = i ∧ i ≤ D.loose.length ∧ q.h 31 = dNow s (crashN D.loose fate D.now (sortK (D.loose.map (·.1))) i)
  | _ => q.i 33 = fateAt fate (q.i 30).toNat
def crashΓ : List Sx.Spec := [sortedS, tornS]
theorem crashΓ_ok : ∀ t ∈ crashΓ, t.OK Tryz.prog := by
  intro t ht
  simp only [crashΓ, List.mem_cons, List.mem_nil_iff, or_false] at ht
  rcases ht with rfl | rfl
  · exact sortedS_ok
  · exact tornS_ok
def crashS : Sx.Spec where
  fn := 18
  own := [.arg 0]
  rd := [1]
  res := []
  pre := fun xs Hs Rs => ∃ p u bs H R D, xs = [p, u] ∧ Hs = [H] ∧ Rs = [R] ∧ DiskAt H p D ∧ RdW R u bs ∧ (∀ b ∈ bs, 0 ≤ b ∧ b < 256) ∧ D.loose.length ≤ 1000000
  post := fun xs Hs Rs v Hs' F => ∃ p u bs H R D H', xs = [p, u] ∧ Hs = [H] ∧ Rs = [R] ∧ DiskAt H p D ∧ RdW R u bs ∧ Hs' = [H'] ∧ DiskAt H' p (crashD D bs)
def crashNd : Nd := .ext (.alloc 16) (.and (.pre (.call 0 17 [.sv (.one (.clo 95 (.var 16)))] [] [.blk 16 [.map (.var 10)] 91, .hp 14 [] [.var 10] []])) (.ext (.call 0 17 [.sv (.one (.clo 95 (.var 16)))] [] [.blk 16 [.map (.var 10)] 91, .hp 14 [] [.var 10] []]) (.and (.e (.le (.lit 0) (.var 19))) (.and (.inv 0 [⟨30, 0, .int .i64 (.lit 0)⟩] [(31, some 13)]) (.havoc 0 0 21 (.and (.imp (.lt (.var 30) (.var 19)) (.and (.e (.le (.lit 0) (.var 17))) (.and (.e (.le (.lit 0) (.var 18))) (.and (.e (.le (.lit 0) (.var 30))) (.and (.e (.his 17 (.var 17) (.add (.var 18) (.var 30)) 0 (.int .i64))) (.and (.and (.e (.le (.lit 0) (.var 3))) (.and (.imp (.lt (.lit 0) (.var 3)) (.and (.e (.le (.lit 0) (.var 1))) (.and (.e (.le (.lit 0) (.var 2))) (.and (.e (.le (.lit 0) (.rem (.var 30) (.var 3)))) (.and (.e (.lt (.rem (.var 30) (.var 3)) (.var 3))) (.and (.e (.his 15 (.var 1) (.add (.var 2) (.rem (.var 30) (.var 3))) 0 (.int .u8))) (.inv 1 [⟨33, 0, .int .i64 (.hI 15 (.var 1) (.add (.var 2) (.rem (.var 30) (.var 3))) 0)⟩] []))))))) (.imp (.not (.lt (.lit 0) (.var 3))) (.inv 1 [⟨33, 0, .int .i64 (.lit 0)⟩] [])))) (.havoc 1 1 32 (.and (.e (.le (.lit 0) (.var 6))) (.and (.e (.le (.lit 0) (.var 7))) (.and (.e (.le (.lit 0) (.hI 17 (.var 17) (.add (.var 18) (.var 30)) 0))) (.and (.e (.lt (.hI 17 (.var 17) (.add (.var 18) (.var 30)) 0) (.var 8))) (.and (.e (.hby 31 (.var 6) (.add (.var 7) (.mul (.hI 17 (.var 17) (.add (.var 18) (.var 30)) 0) (.lit 64))) (.lit 64))) (.and (.pre (.mget 34 14 (.var 10) (.int .i64) (.int .i64 (.hI 17 (.var 17) (.add (.var 18) (.var 30)) 0)) (.agg (List.replicate 64 (CV.int .u8 (.lit 0)))) (List.replicate 64 (Ck.int .u8)) true)) (.ext (.mget 34 14 (.var 10) (.int .i64) (.int .i64 (.hI 17 (.var 17) (.add (.var 18) (.var 30)) 0)) (.agg (List.replicate 64 (CV.int .u8 (.lit 0)))) (List.replicate 64 (Ck.int .u8)) true) (.and (.pre (.call 1 99 [.sv (.agg (ckCVs 34 (List.replicate 64 (Ck.int .u8)))), .sv (.agg (romCells 31 (.var 6) (.add (.var 7) (.mul (.hI 17 (.var 17) (.add (.var 18) (.var 30)) 0) (.lit 64))) 0 (List.replicate 64 (Kd.int .u8)))), .sv (.one (.int .u8 (.var 33)))] [] [])) (.ext (.call 1 99 [.sv (.agg (ckCVs 34 (List.replicate 64 (Ck.int .u8)))), .sv (.agg (romCells 31 (.var 6) (.add (.var 7) (.mul (.hI 17 (.var 17) (.add (.var 18) (.var 30)) 0) (.lit 64))) 0 (List.replicate 64 (Kd.int .u8)))), .sv (.one (.int .u8 (.var 33)))] [] []) (.and (.pre (.put 163 31 (.var 6) (.add (.var 7) (.mul (.hI 17 (.var 17) (.add (.var 18) (.var 30)) 0) (.lit 64))) (ckCVs 99 (List.replicate 64 (Ck.int .u8))))) (.ext (.put 163 31 (.var 6) (.add (.var 7) (.mul (.hI 17 (.var 17) (.add (.var 18) (.var 30)) 0) (.lit 64))) (ckCVs 99 (List.replicate 64 (Ck.int .u8)))) (.back 0 0 [⟨30, 0, .int .i64 (.wrap .i64 (.add (.var 30) (.lit 1)))⟩] [(31, some 163)]))))))))))))))))))) (.imp (.not (.lt (.var 30) (.var 19))) (.and (.pre (.mclr 32 14 (.var 10))) (.ext (.mclr 32 14 (.var 10)) (.post [.blk 0 [.sl (.var 6) (.var 7) (.var 8) (.var 9), .map (.var 10), .int .i64 (.lit (-1)), .bool .ff] 93, .hp 31 [] [.var 6] [], .hp 32 [14] [.var 10] [], .ro 15 [.var 1] false, .dead, .hp 17 [] [.var 17] []] (.tup [])))))))))))
def crashW : Walk Tryz.prog crashΓ crashS.fn where
  Λ := fun p => if lp p then some ⟨0, [(14, TI .i64 (.var 30))], [(1, .hp 31 [] [.var 6] [])], 32⟩ else
    if cutAt p [18, 0,1,0,0,1,1,0,0,1,1,0] then some ⟨1, [(6, TI .u8 (.var 33))], [], 34⟩ else none
  args := [TP (.var 0) (.lit 0), .sv (.one (.sl (.var 1) (.var 2) (.var 3) (.var 4)))]
  mem := dMem ++ [.ro 15 [.var 1] false]
  nv := 16
  nd := crashNd
  ok := by kernel_rfl
theorem kg0 : crashΓ[0]? = some sortedS := rfl
theorem kg1 : crashΓ[1]? = some tornS := rfl
theorem kr0 : sortedS.res = [.one .sl] := rfl
theorem kr1 : tornS.res = [.agg cell64] := rfl
theorem kc0 : (cpRoots 0 [Cp.one .sl] ≠ []) = True := by simp [cpRoots, Cp.roots, Ck.root]
theorem torn_pre {was now : List Int} (h1 : was.length = 64) (h2 : now.length = 64) {k : Int} (k0 : 0 ≤ k ∧ k < 256) : tornS.pre [.agg (bys was).toArray, .agg (bys now).toArray, .int .u8 k] [] [] := by
  obtain ⟨a, _, _, ea⟩ := row_rep cell64 0 (bys was) ⟨fun _ => 0, fun _ => false, fun _ => .empty, fun _ => .tuple #[], fun _ => Hl.none⟩ (rowOK_bys 64 _ h1)
  obtain ⟨b, gb, _, eb⟩ := row_rep cell64 64 (bys now) a (rowOK_bys 64 _ h2)
  obtain ⟨c, gc, _, ec⟩ := row_rep [.int .u8] 128 [.int .u8 k] b ⟨by simp [valIs, kdOf], trivial⟩
  have gac : Agree 64 a c := gb.trans (gc.mono (by omega))
  have e1 : (ckCVs 0 cell64).map (CV.ev c) = bys was := by rw [CV.agreeL gac _ (ckCVs_upto cell64 0)]; exact ea
  have e2 : (ckCVs 64 cell64).map (CV.ev c) = bys now := by rw [CV.agreeL gc _ (ckCVs_upto cell64 64)]; exact eb
  refine ⟨⟨c, ⟨normsW_bytes c 64 0, normsW_bytes c 64 64, trivial, trivial⟩, ?_⟩, k0⟩
  show [Value.agg (bys was).toArray, Value.agg (bys now).toArray, Value.int .u8 k] = [Value.agg ((ckCVs 0 cell64).map (CV.ev c)).toArray, Value.agg ((ckCVs 64 cell64).map (CV.ev c)).toArray, CV.ev c (.int .u8 (.var 128))]
  rw [e1, e2]
  have ec : [CV.ev c (.int .u8 (.var 128))] = [Value.int .u8 k] := ec
  rw [List.cons.injEq] at ec
  rw [ec.1]
theorem fateAt_range {bs : List Int} (hb : ∀ b ∈ bs, 0 ≤ b ∧ b < 256) (i : Nat) : 0 ≤ fateAt bs i ∧ fateAt bs i < 256 := by
  unfold fateAt
  split
  · omega
  · rename_i h
    have hl : 0 < bs.length := List.length_pos_iff.2 h
    have hm := Nat.mod_lt i hl
    rw [List.getD_eq_getElem?_getD, List.getElem?_eq_getElem hm, Option.getD_some]
    exact hb _ (List.getElem_mem _)
theorem sec_cell {now : List Int} (s : Nat) (key : Int) : ∀ j z, (secOf now key)[j]? = some z → (dNow s now).cell s (64 * key.toNat + j) = some (.int .u8 z) := by
  intro j z hz
  unfold dNow
  rw [Hl.one_cell, List.getElem?_toArray, bys_get]
  unfold secOf at hz
  rw [List.getElem?_take] at hz
  split at hz
  · rw [List.getElem?_drop] at hz
    rw [hz]; rfl
  · cases hz
theorem secOf_length {now : List Int} {n : Nat} (hn : now.length = 64 * n) {key : Int} (h0 : 0 ≤ key) (h1 : key < n) : (secOf now key).length = 64 := by
  unfold secOf
  rw [List.length_take, List.length_drop, hn]; omega
set_option maxRecDepth 20000 in
theorem crashS_ok : crashS.OK Tryz.prog := by
  refine Spec.of_fn crashΓ_ok ?_
  rintro xs Hs Rs hl1 hl2 ⟨p, u, bs, H, R, D, rfl, rfl, rfl, ⟨a, s, m, es, clock, rfl, h⟩, ⟨x, y, cp, rfl, hy, hR⟩, hb, hL⟩
  refine ⟨crashW, dEnv a s m D [x, y, bs.length, cp, 0] es clock R, crashInv D bs s, fun _ q => (D.loose.length - q.i 30).toNat, ?_, dEntry2 h _ rfl _ _, (fun _ h => nomatch h), ?_⟩
  · show [Value.pointer (slP (a : Int) 0), Value.slice (slP x y) ((bs.length : Int)).toNat ((cp : Int)).toNat] = _
    rw [dArg, Int.toNat_natCast, Int.toNat_natCast]
  · show Nd.holds _ _ _ crashNd
    have hρ0 : ∃ ρ, ρ = dEnv a s m D [x, y, bs.length, cp, 0] es clock R := ⟨_, rfl⟩
    obtain ⟨ρ, hρ⟩ := hρ0
    rw [← hρ]
    have v0 : ρ.i 0 = a := by rw [hρ]; rfl
    have v1 : ρ.i 1 = x := by rw [hρ]; rfl
    have v2 : ρ.i 2 = y := by rw [hρ]; rfl
    have v3 : ρ.i 3 = bs.length := by rw [hρ]; rfl
    have v6 : ρ.i 6 = s := by rw [hρ]; rfl
    have v7 : ρ.i 7 = 0 := by rw [hρ]; rfl
    have v8 : ρ.i 8 = D.n := by rw [hρ]; rfl
    have v10 : ρ.i 10 = m := by rw [hρ]; rfl
    have vh : ρ.h 13 = dNow s D.now := by rw [hρ]; rfl
    have vm : ρ.h 14 = Hl.one m (.map es clock) := by rw [hρ]; rfl
    have vr : ρ.h 15 = R := by rw [hρ]; rfl
    have hmem : (Hl.one m (.map es clock)) m = some (.map es clock) := Hl.one_self _ _
    have hlv : (lv D.loose).map (·.1) = D.loose.map (·.1) := by unfold lv; rw [List.map_map]; rfl
    unfold crashNd
    simp only [Nd.holds, X.pre, X.rel, X.n, Src.ok, Src.len, Src.vals, true_and, and_true, if_true, Nat.mul_one, Nat.add_zero, Nat.reduceAdd, List.length_cons, List.length_nil, bT_tt, bT_ff, bT_bvar, bT_not, bT_and, bT_or, bT_ite, bT_lt, bT_le, bT_eq, bT_beq, bT_seq, bT_hB, bT_his, bT_hby, bT_hism, bT_hks, iev_lit, iev_var, iev_add, iev_sub, iev_mul, iev_wrap, iev_ite, iev_hI, iev_hP, iev_hmlen, sev_ite, sev_slit, sev_sof, sev_svar, TV.ev, SV.ev, CV.ev, List.map_cons, List.map_nil, Res.hl, cpTV, Cp.sv, Ck.cv, cpSVs, Cp.len, Ck.len, newHs_zero, newHs_one, roots_ne, kg0, kg1, kr0, kr1, iev_rem]
    intro q1 g1 ha1
    have hx16 : 0 ≤ q1.i 16 := by first | exact ha1 | exact ha1.1 | omega
    have e10 : q1.i 10 = m := by rw [g1.i 10 (by omega), v10]
    have e14 : q1.h 14 = Hl.one m (.map es clock) := by rw [g1.h 14 (by omega), vm]
    have ecell : ∀ T, (Hl.one (q1.i 16).toNat (Obj.cells #[Value.map (if q1.i 10 = -1 then none else some (q1.i 10).toNat)] T)).cell (q1.i 16).toNat 0 = some (.map (some m)) := by
      intro T
      rw [Hl.one_cell, e10, if_neg (by omega), Int.toNat_natCast]; rfl
    refine ⟨⟨(q1.i 16).toNat, m, es, clock, lv D.loose, _, _, by rw [slP_pos hx16]; rfl, rfl, ecell _, by rw [e14]; exact hmem, h.map, h.st, fun p hp => ?_, by rw [lv_length]; exact hL⟩, fun q2 g2 ⟨F, ⟨x', m', es', clock', l', R1, R2, hxx, hRR, hc', hm', hM', hO⟩, hF, hn⟩ => ?_⟩
    · unfold lv at hp
      obtain ⟨r, hr, rfl⟩ := List.mem_map.1 hp
      have := (h.ok.loose r hr).2
      have := h.ok.n
      exact ⟨by show _ ≤ r.1; omega, by show r.1 ≤ _; omega⟩
    cases hRR
    rw [slP_pos hx16] at hxx
    simp only [List.cons.injEq, Value.func.injEq, List.toArray_inj, Array.mk.injEq, Value.pointer.injEq, Option.some.injEq, Addr.mk.injEq, and_true, true_and] at hxx
    have hxx : (q1.i 16).toNat = x' := by first | exact hxx | exact hxx.1
    subst hxx
    have hc' := (ecell _).symm.trans hc'
    simp only [Option.some.injEq, Value.map.injEq] at hc'
    subst hc'
    rw [e14, hmem] at hm'
    simp only [Option.some.injEq, Obj.map.injEq] at hm'
    obtain ⟨rfl, rfl⟩ := hm'
    rw [MapIs.inj hM' h.map, lv_length, hlv] at hO
    have hF : q2.h 17 = F := hF (by rw [kc0]; trivial)
    subst hF
    have hn : -1 ≤ q2.i 17 ∧ 0 ≤ q2.i 18 ∧ 0 ≤ q2.i 19 ∧ 0 ≤ q2.i 20 := hn.1
    obtain ⟨n17, n18, n19, n20⟩ := hn
    obtain ⟨c19, cL, hK⟩ := ownI_at hO n17 n18 n19
    obtain ⟨ks, hks⟩ : ∃ ks, ks = sortK (D.loose.map (·.1)) := ⟨_, rfl⟩
    rw [← hks] at hO cL hK
    have hkex : ∀ k ∈ ks, ∃ p ∈ D.loose, p.1 = k := by
      intro k hk
      rw [hks] at hk
      obtain ⟨p, hp, e⟩ := List.mem_map.1 (sortK_mem.1 hk)
      exact ⟨p, hp, e⟩
    have hkb : ∀ k ∈ ks, 0 ≤ k ∧ k < D.n := by
      intro k hk
      obtain ⟨p, hp, rfl⟩ := hkex k hk
      exact (h.ok.loose p hp).2
    have G2 : Agree 16 ρ q2 := g1.trans (g2.mono (by omega))
    refine ⟨n19, ⟨0, rfl, Nat.zero_le _, ?_⟩, fun q3 g3 ⟨i, hi, hiL, h31⟩ => ?_⟩
    · show q2.h 13 = _
      rw [G2.h 13 (by omega), vh]; rfl
    have G3 : Agree 16 ρ q3 := G2.trans (g3.mono (by omega))
    have d19 : q3.i 19 = D.loose.length := by rw [g3.i 19 (by omega), c19]
    rw [← hks] at h31
    refine ⟨fun hlt => ?_, fun hge => ?_⟩
    · have hlt' : i < D.loose.length := by omega
      obtain ⟨hx0, hcell⟩ := hK i hlt'
      obtain ⟨key, hkey⟩ : ∃ k, k = ks.getD i 0 := ⟨_, rfl⟩
      rw [← hkey] at hcell
      have hmk : key ∈ ks := by
        rw [hkey, List.getD_eq_getElem?_getD, List.getElem?_eq_getElem (by omega), Option.getD_some]
        exact List.getElem_mem _
      obtain ⟨k0, k1⟩ := hkb key hmk
      have hw64 := wasOf_length h.ok (hkex key hmk)
      have hnl : (crashN D.loose bs D.now ks i).length = 64 * D.n := crashN_length h.ok bs ks hkb i (by omega)
      obtain ⟨now, hnow⟩ : ∃ now, now = crashN D.loose bs D.now ks i := ⟨_, rfl⟩
      rw [← hnow] at hnl h31
      have hs64 := secOf_length hnl k0 k1
      have hc17 : ∀ q, Agree 21 q3 q → q.i 30 = i → (q.h 17).cell (q.i 17).toNat (q.i 18 + q.i 30).toNat = some (.int .i64 key) := by
        intro q g e
        rw [g.h 17 (by omega), g.i 17 (by omega), g.i 18 (by omega), g3.h 17 (by omega), g3.i 17 (by omega), g3.i 18 (by omega), e, show (q2.i 18 + i).toNat = (q2.i 18).toNat + i by omega]
        exact hcell
      have ht : (i : Int).tmod (bs.length : Int) = ((i % bs.length : Nat) : Int) := rfl
      refine ⟨by rw [g3.i 17 (by omega)]; omega, by rw [g3.i 18 (by omega)]; omega, by omega, by rw [hc17 q3 (Agree.refl _ _) hi]; rfl, ⟨by rw [G3.i 3 (by omega), v3]; omega, fun h3 => ?_, fun h3 => ?_⟩, fun q4 g4 h33 => ?_⟩
      · rw [G3.i 3 (by omega), v3] at h3
        have hne : bs ≠ [] := by rintro rfl; simp at h3
        have hxr : 0 ≤ x ∧ ∀ j z, bs[j]? = some z → R.cell x.toNat (y.toNat + j) = some (.int .u8 z) := by
          rcases hR with h | h
          · exact absurd h hne
          · exact h
        have hl : 0 < bs.length := by omega
        have hm := Nat.mod_lt i hl
        have hcR : (q3.h 15).cell (q3.i 1).toNat (q3.i 2 + (q3.i 30).tmod (q3.i 3)).toNat = some (.int .u8 bs[i % bs.length]) := by
          rw [G3.h 15 (by omega), G3.i 1 (by omega), G3.i 2 (by omega), G3.i 3 (by omega), vr, v1, v2, v3, hi, ht, show (y + ((i % bs.length : Nat) : Int)).toNat = y.toNat + i % bs.length by omega]
          exact hxr.2 _ _ (List.getElem?_eq_getElem hm)
        refine ⟨by rw [G3.i 1 (by omega), v1]; exact hxr.1, by rw [G3.i 2 (by omega), v2]; exact hy, by rw [hi, G3.i 3 (by omega), v3, ht]; omega, by rw [hi, G3.i 3 (by omega), v3, ht]; omega, by rw [hcR]; rfl, ?_⟩
        show valI ((q3.h 15).cell (q3.i 1).toNat (q3.i 2 + (q3.i 30).tmod (q3.i 3)).toNat) = fateAt bs (q3.i 30).toNat
        rw [hcR, hi, Int.toNat_natCast]
        unfold fateAt
        rw [if_neg hne, List.getD_eq_getElem?_getD, List.getElem?_eq_getElem hm]; rfl
      · rw [G3.i 3 (by omega), v3] at h3
        have hne : bs = [] := List.length_eq_zero_iff.1 (by omega)
        show (0 : Int) = fateAt bs (q3.i 30).toNat
        unfold fateAt
        rw [if_pos hne]
      · have G4 : Agree 16 ρ q4 := G3.trans (g4.mono (by omega))
        have e30 : q4.i 30 = i := by rw [g4.i 30 (by omega), hi]
        have e31 : q4.h 31 = dNow s now := by rw [g4.h 31 (by omega), h31]
        have h33 : q4.i 33 = fateAt bs i := by
          have h33 : q4.i 33 = fateAt bs (q4.i 30).toNat := h33
          rw [h33, e30, Int.toNat_natCast]
        have ek : valI ((q4.h 17).cell (q4.i 17).toNat (q4.i 18 + q4.i 30).toNat) = key := by rw [hc17 q4 (g4.mono (by omega)) e30]; rfl
        have d6 : q4.i 6 = s := by rw [G4.i 6 (by omega), v6]
        have d7 : q4.i 7 = 0 := by rw [G4.i 7 (by omega), v7]
        have d8 : q4.i 8 = D.n := by rw [G4.i 8 (by omega), v8]
        have d10 : q4.i 10 = m := by rw [G4.i 10 (by omega), v10]
        have d14 : q4.h 14 = Hl.one m (.map es clock) := by rw [G4.h 14 (by omega), vm]
        have hat : ((0 : Int) + key * 64).toNat = 64 * key.toNat := by omega
        obtain ⟨jw, hjw⟩ := mapGo_was (k := key) 0 (hkex key hmk)
        rw [ek, d6, d7, d8, d10, d14, e31, hat, Int.toNat_natCast, Int.toNat_natCast]
        refine ⟨by omega, by omega, k0, k1, cells_bytes (sec_cell s key) (by rw [hs64]; decide), ⟨by omega, es, clock, _, hmem, mapFind_int h.map key, fun j v hv => ?_⟩, fun q5 g5 hq5 => ?_⟩
        · rw [hjw] at hv
          cases hv
          refine ⟨_, rfl, ?_⟩
          show (bys _).map ckOf = _
          rw [ckOf_bys, hw64]
        obtain ⟨hval, _⟩ := hq5 es clock _ hmem (mapFind_int h.map key)
        rw [hjw] at hval
        have hval : Value.agg ((ckCVs 34 cell64).map (CV.ev q5)).toArray = .agg (bys (wasOf D.loose key)).toArray := hval
        have ek5 : valI ((q5.h 17).cell (q5.i 17).toNat (q5.i 18 + q5.i 30).toNat) = key := by rw [hc17 q5 ((g4.mono (by omega)).trans (g5.mono (by omega))) (by rw [g5.i 30 (by omega), e30])]; rfl
        have hsec : ∀ q, Agree 34 q4 q → (romCells 31 (.var 6) (.add (.var 7) (.mul (.hI 17 (.var 17) (.add (.var 18) (.var 30)) 0) (.lit 64))) 0 (List.replicate 64 (Kd.int .u8))).map (CV.ev q) = bys (secOf now key) := by
          intro q g
          have e : valI ((q.h 17).cell (q.i 17).toNat (q.i 18 + q.i 30).toNat) = key := by rw [hc17 q ((g4.mono (by omega)).trans (g.mono (by omega))) (by rw [g.i 30 (by omega), e30])]; rfl
          refine romCells_ev 64 0 _ hs64 fun j z hz => ?_
          simp only [iev_add, iev_mul, iev_var, iev_lit, iev_hI, Nat.add_zero]
          rw [e, g.h 31 (by omega), g.i 6 (by omega), g.i 7 (by omega), e31, d6, d7, hat, Int.toNat_natCast, Nat.zero_add]
          exact sec_cell s key j z hz
        have e33 : q5.i 33 = fateAt bs i := by rw [g5.i 33 (by omega), h33]
        have hpre : ∀ l, l = [Value.agg (bys (wasOf D.loose key)).toArray, Value.agg (bys (secOf now key)).toArray, Value.int .u8 (fateAt bs i)] → tornS.pre l [] [] := by
          rintro l rfl
          exact torn_pre hw64 hs64 (fateAt_range hb i)
        have hargs : [Value.agg ((ckCVs 34 cell64).map (CV.ev q5)).toArray, Value.agg ((romCells 31 (.var 6) (.add (.var 7) (.mul (.hI 17 (.var 17) (.add (.var 18) (.var 30)) 0) (.lit 64))) 0 (List.replicate 64 (Kd.int .u8))).map (CV.ev q5)).toArray, Value.int .u8 (q5.i 33)] = [Value.agg (bys (wasOf D.loose key)).toArray, Value.agg (bys (secOf now key)).toArray, Value.int .u8 (fateAt bs i)] := by
          rw [hval, hsec q5 g5, e33]
        refine ⟨hpre _ hargs, fun q6 g6 ⟨_, hv6, _⟩ => ?_⟩
        have hv6 : Value.agg ((ckCVs 99 cell64).map (CV.ev q6)).toArray = .agg (bys (tornI (wasOf D.loose key) (secOf now key) (fateAt bs i))).toArray := by
          have hv6 : Value.agg ((ckCVs 99 cell64).map (CV.ev q6)).toArray = tornG [Value.agg ((ckCVs 34 cell64).map (CV.ev q5)).toArray, Value.agg ((romCells 31 (.var 6) (.add (.var 7) (.mul (.hI 17 (.var 17) (.add (.var 18) (.var 30)) 0) (.lit 64))) 0 (List.replicate 64 (Kd.int .u8))).map (CV.ev q5)).toArray, Value.int .u8 (q5.i 33)] := hv6
          rw [hv6, hargs]
          show Value.agg (bys (tornI (intsOf _) (intsOf _) _)).toArray = _
          rw [intsOf_bys, intsOf_bys]
        have hv6 : (ckCVs 99 cell64).map (CV.ev q6) = bys (tornI (wasOf D.loose key) (secOf now key) (fateAt bs i)) := by
          simpa using hv6
        have g46 : Agree 34 q4 q6 := g5.trans (g6.mono (by omega))
        have ek6 : valI ((q6.h 17).cell (q6.i 17).toNat (q6.i 18 + q6.i 30).toNat) = key := by rw [hc17 q6 ((g4.mono (by omega)).trans (g46.mono (by omega))) (by rw [g46.i 30 (by omega), e30])]; rfl
        rw [ek6, g46.i 6 (by omega), g46.i 7 (by omega), g46.h 31 (by omega), d6, d7, e31, hat, Int.toNat_natCast]
        have hv6' : (ckCVs 99 (List.replicate 64 (Ck.int .u8))).map (CV.ev q6) = bys (tornI (wasOf D.loose key) (secOf now key) (fateAt bs i)) := hv6
        have hlen : (ckCVs 99 (List.replicate 64 (Ck.int .u8))).length = 64 := by decide
        refine ⟨⟨by omega, by omega, ?_⟩, fun q7 g7 hq7 => ?_⟩
        · rw [hlen]
          exact Hl.one_wr _ _ _ _ _ (by rw [List.size_toArray, bys_length, hnl]; omega)
        · rw [hv6', dNow_put] at hq7
          have f30 : q7.i 30 = i := by rw [g7.i 30 (by omega), g46.i 30 (by omega), e30]
          have w : IntKind.i64.wrap ((i : Int) + 1) = i + 1 := wrap_i64 (by omega) (by omega)
          have m30 : (assign q7 [⟨30, 0, .int .i64 (.wrap .i64 (.add (.var 30) (.lit 1)))⟩] [(31, some 163)]).i 30 = i + 1 := by
            show IntKind.i64.wrap (q7.i 30 + 1) = _
            rw [f30, w]
          refine ⟨⟨i + 1, by rw [m30]; omega, by omega, ?_⟩, ?_⟩
          rotate_left
          · show ((D.loose.length : Int) - (assign q7 [⟨30, 0, .int .i64 (.wrap .i64 (.add (.var 30) (.lit 1)))⟩] [(31, some 163)]).i 30).toNat < ((D.loose.length : Int) - q3.i 30).toNat
            rw [m30, hi]; omega
          show q7.h 163 = _
          rw [hq7, ← hks]
          show _ = dNow s (splice (crashN D.loose bs D.now ks i) (64 * (ks.getD i 0).toNat) (tornI (wasOf D.loose (ks.getD i 0)) (secOf (crashN D.loose bs D.now ks i) (ks.getD i 0)) (fateAt bs i)))
          rw [← hkey, ← hnow]
    · have hi : i = D.loose.length := by omega
      subst hi
      rw [G3.i 10 (by omega), v10, G3.h 14 (by omega), vm, Int.toNat_natCast]
      refine ⟨⟨by omega, es, clock, hmem⟩, fun q4 g4 hq4 _ => ?_⟩
      have hq4 := hq4 es clock hmem
      rw [Hl.one_setObj] at hq4
      have G4 : Agree 15 ρ q4 := (G3.trans (g4.mono (by omega))).mono (by omega)
      rw [hρ] at G4
      refine ⟨[[0, 1, 2]], [], rfl, rfl, ⟨⟨fun _ => 0, fun _ => false, fun _ => .empty, fun _ => .tuple #[], fun _ => Hl.none⟩, rfl, trivial⟩, _, _, bs, H, R, D, _, rfl, rfl, rfl, ⟨a, s, m, es, clock, rfl, h⟩, ⟨x, y, cp, rfl, hy, hR⟩, rfl, ?_⟩
      refine dOut (es' := #[]) (clock' := clock) h G4 (crashD_ok h.ok bs) rfl rfl (MapKept.stamped_empty _) (iev_lit _ _) rfl ?_ hq4
      rw [g4.h 31 (by omega), h31, hks]; rfl
end Go.Proofs.YtomdimlnggpgbaaGreatDoor.D
