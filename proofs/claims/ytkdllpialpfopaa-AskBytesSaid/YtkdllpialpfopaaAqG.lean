/- Layer 22: ask.Bytes as a contract. Condition: bytes below 256. -/
import Derived.Test.YtkdllpialpfopaaAqF
set_option linter.unusedSimpArgs false
set_option linter.unusedVariables false
set_option linter.constructorNameAsVariable false
namespace Go.Proofs.Ytkdllpialpfopaa
open Go Go.Sx Go.Pk

noncomputable def kindB (r : Rq) : List Int :=
  if cI r.c 1 = 1 then pcB ⟨r.h, r.b⟩
  else if cI r.c 1 = 2 then vecB (segI r.c 128 6) ++ flagB (cB r.c 134) ++ numB r.w.length ++ r.w.flatten ++ numB (u64N (cI r.c 136))
  else if cI r.c 1 = 3 then numB (u64N (cI r.c 137)) ++ numB (cI r.c 138).toNat
  else []
/-- A formed request's bytes. -/
noncomputable def qB (r : Rq) : List Int := numB (cI r.c 0).toNat ++ numB (u64N (cI r.c 1)) ++ kindB r
open Classical in
noncomputable def qRes (r : Rq) : List Int × Int := if r.Form then (qB r, 0) else ([], 1)
noncomputable def qBytesS : Sx.Spec where
  fn := 7
  own := []
  rd := [1000055, 1000127, 1000135]
  res := [.one .sl, .one (.int .i64)]
  pre := fun xs Hs Rs => ∃ row R1 R2 R3 r, xs = [.agg row.toArray] ∧ Rs = [R1, R2, R3] ∧ IsRq R1 R2 R3 row r
  post := fun xs Hs Rs v Hs' F => ∃ row R1 R2 R3 r u, xs = [.agg row.toArray] ∧ Rs = [R1, R2, R3] ∧ IsRq R1 R2 R3 row r ∧ v = .tuple #[u, .int .i64 (qRes r).2] ∧ OwB F 5 u (qRes r).1
noncomputable def abΓ : List Sx.Spec := [formQ 9, oNumS, oRawS, oFlagS, oEndS, putPcS, putVecS]
theorem abΓ_ok : ∀ t ∈ abΓ, t.OK Try.prog := fun t ht => by
  simp only [abΓ, List.mem_cons, List.mem_nil_iff, or_false] at ht
  rcases ht with rfl | rfl | rfl | rfl | rfl | rfl | rfl
  · exact eFormQ_ok
  · exact oNumS_ok
  · exact oRawS_ok
  · exact oFlagS_ok
  · exact oEndS_ok
  · exact putPcS_ok
  · exact putVecS_ok
def qBytNd : Nd := .ext (.alloc 153) (.and (.pre (.call 0 154 [.sv (.agg (ckCVs 0 qk2))] [] [.ro 150 [.var 55] false, .ro 151 [.var 130] false, .ro 152 [.var 141] false])) (.ext (.call 0 154 [.sv (.agg (ckCVs 0 qk2))] [] [.ro 150 [.var 55] false, .ro 151 [.var 130] false, .ro 152 [.var 141] false]) (.and (.imp (.not (.bvar 154)) (.post [.ro 150 [.var 55] false, .ro 151 [.var 130] false, .ro 152 [.var 141] false, .dead] (.tup [.one (.sl (.lit (-1)) (.lit 0) (.lit 0) (.lit 0)), .one (.int .i64 (.lit 1))]))) (.imp (.bvar 154) (.ext (.alloc 155) (.and (.pre (.call 1 156 [.sv (.one (.hptr (.var 155) (.lit 0))), .sv (.one (.int .u64 (.var 0)))] [.blk 155 [.sl (.lit (-1)) (.lit 0) (.lit 0) (.lit 0), .bool .ff] 53] [])) (.ext (.call 1 156 [.sv (.one (.hptr (.var 155) (.lit 0))), .sv (.one (.int .u64 (.var 0)))] [.blk 155 [.sl (.lit (-1)) (.lit 0) (.lit 0) (.lit 0), .bool .ff] 53] []) (.and (.pre (.call 1 158 [.sv (.one (.hptr (.var 155) (.lit 0))), .sv (.one (.int .u64 (.wrap .u64 (.var 1))))] [.hp 156 [] [.var 155] []] [])) (.ext (.call 1 158 [.sv (.one (.hptr (.var 155) (.lit 0))), .sv (.one (.int .u64 (.wrap .u64 (.var 1))))] [.hp 156 [] [.var 155] []] []) (.and (.and (.imp (.eq (.var 1) (.lit 1)) (.and (.pre (.call 5 160 [.sv (.one (.hptr (.var 155) (.lit 0))), .sv (.agg (ckCVs 2 (hk2 ++ [Ck.sl])))] [.hp 158 [156] [.var 155] []] [.ro 150 [.var 55] false, .ro 151 [.var 130] false])) (.ext (.call 5 160 [.sv (.one (.hptr (.var 155) (.lit 0))), .sv (.agg (ckCVs 2 (hk2 ++ [Ck.sl])))] [.hp 158 [156] [.var 155] []] [.ro 150 [.var 55] false, .ro 151 [.var 130] false]) (.inv 1 [] [(300, some 160)])))) (.imp (.not (.eq (.var 1) (.lit 1))) (.and (.imp (.eq (.var 1) (.lit 2)) (.and (.pre (.call 6 160 [.sv (.one (.hptr (.var 155) (.lit 0))), .sv (.agg (ckCVs 134 (List.replicate 6 (Ck.int .u64))))] [.hp 158 [156] [.var 155] []] [])) (.ext (.call 6 160 [.sv (.one (.hptr (.var 155) (.lit 0))), .sv (.agg (ckCVs 134 (List.replicate 6 (Ck.int .u64))))] [.hp 158 [156] [.var 155] []] []) (.and (.pre (.call 3 162 [.sv (.one (.hptr (.var 155) (.lit 0))), .sv (.one (.bool (.bvar 140)))] [.hp 160 [158, 156] [.var 155] []] [])) (.ext (.call 3 162 [.sv (.one (.hptr (.var 155) (.lit 0))), .sv (.one (.bool (.bvar 140)))] [.hp 160 [158, 156] [.var 155] []] []) (.and (.e (.le (.lit 0) (.var 143))) (.and (.pre (.call 1 164 [.sv (.one (.hptr (.var 155) (.lit 0))), .sv (.one (.int .u64 (.wrap .u64 (.var 143))))] [.hp 162 [160, 158, 156] [.var 155] []] [])) (.ext (.call 1 164 [.sv (.one (.hptr (.var 155) (.lit 0))), .sv (.one (.int .u64 (.wrap .u64 (.var 143))))] [.hp 162 [160, 158, 156] [.var 155] []] []) (.and (.inv 0 [⟨200, 0, .int .i64 (.lit 0)⟩] [(201, some 164)]) (.havoc 0 0 166 (.and (.imp (.lt (.var 200) (.var 143)) (.and (.e (.le (.lit 0) (.var 141))) (.and (.e (.le (.lit 0) (.var 142))) (.and (.e (.le (.lit 0) (.var 200))) (.and (.e (.hby 152 (.var 141) (.add (.var 142) (.mul (.var 200) (.lit 16))) (.lit 16))) (.ext (.alloc 210) (.and (.pre (.call 2 211 [.sv (.one (.hptr (.var 155) (.lit 0))), .sv (.one (.sl (.var 210) (.lit 0) (.lit 16) (.lit 16)))] [.hp 201 [] [.var 155] []] [.blk 210 (romCells 152 (.var 141) (.add (.var 142) (.mul (.var 200) (.lit 16))) 0 (List.replicate 16 (Kd.int .u8))) 26])) (.ext (.call 2 211 [.sv (.one (.hptr (.var 155) (.lit 0))), .sv (.one (.sl (.var 210) (.lit 0) (.lit 16) (.lit 16)))] [.hp 201 [] [.var 155] []] [.blk 210 (romCells 152 (.var 141) (.add (.var 142) (.mul (.var 200) (.lit 16))) 0 (List.replicate 16 (Kd.int .u8))) 26]) (.back 0 0 [⟨200, 0, .int .i64 (.wrap .i64 (.add (.var 200) (.lit 1)))⟩] [(201, some 211)]))))))))) (.imp (.not (.lt (.var 200) (.var 143))) (.and (.pre (.call 1 210 [.sv (.one (.hptr (.var 155) (.lit 0))), .sv (.one (.int .u64 (.wrap .u64 (.var 145))))] [.hp 201 [] [.var 155] []] [])) (.ext (.call 1 210 [.sv (.one (.hptr (.var 155) (.lit 0))), .sv (.one (.int .u64 (.wrap .u64 (.var 145))))] [.hp 201 [] [.var 155] []] []) (.inv 1 [] [(300, some 210)]))))))))))))))) (.imp (.not (.eq (.var 1) (.lit 2))) (.and (.imp (.eq (.var 1) (.lit 3)) (.and (.pre (.call 1 160 [.sv (.one (.hptr (.var 155) (.lit 0))), .sv (.one (.int .u64 (.wrap .u64 (.var 146))))] [.hp 158 [156] [.var 155] []] [])) (.ext (.call 1 160 [.sv (.one (.hptr (.var 155) (.lit 0))), .sv (.one (.int .u64 (.wrap .u64 (.var 146))))] [.hp 158 [156] [.var 155] []] []) (.and (.pre (.call 1 162 [.sv (.one (.hptr (.var 155) (.lit 0))), .sv (.one (.int .u64 (.var 147)))] [.hp 160 [158, 156] [.var 155] []] [])) (.ext (.call 1 162 [.sv (.one (.hptr (.var 155) (.lit 0))), .sv (.one (.int .u64 (.var 147)))] [.hp 160 [158, 156] [.var 155] []] []) (.inv 1 [] [(300, some 162)])))))) (.imp (.not (.eq (.var 1) (.lit 3))) (.inv 1 [] [(300, some 158)]))))))) (.havoc 0 1 160 (.and (.pre (.call 4 310 [.sv (.one (.hptr (.var 155) (.lit 0)))] [] [.hp 300 [] [.var 155] []])) (.ext (.call 4 310 [.sv (.one (.hptr (.var 155) (.lit 0)))] [] [.hp 300 [] [.var 155] []]) (.post [.ro 150 [.var 55] false, .ro 151 [.var 130] false, .ro 152 [.var 141] false, .dead, .hp 300 [] [.var 155] [], .hp 310 [] [.var 310] []] (.tup [.one (.sl (.var 310) (.var 311) (.var 312) (.var 313)), .one (.int .i64 (.var 314))])))))))))))))))
noncomputable def qBytW : Walk Try.prog abΓ 7 where
  Λ := fun p => if eqN p [7, 1, 1, 1, 1, 1, 0, 1, 0, 1, 1, 1, 0, 1, 1, 1, 0, 1, 0] then some ⟨0, [(43, TI .i64 (.var 200))], [(4, .hp 201 [] [.var 155] [])], 210⟩ else if cutAt p [7, 1, 1, 1, 1, 1, 0] then some ⟨1, [], [(4, .hp 300 [] [.var 155] [])], 310⟩ else none
  args := (cpSVs 0 [.agg qk2]).map .sv
  mem := rqMem
  nv := 153
  nd := qBytNd
  ok := by kernel_rfl
theorem abg0 : abΓ[0]? = some (formQ 9) := rfl
theorem abg1 : abΓ[1]? = some oNumS := rfl
theorem abg2 : abΓ[2]? = some oRawS := rfl
theorem abg3 : abΓ[3]? = some oFlagS := rfl
theorem abg4 : abΓ[4]? = some oEndS := rfl
theorem abg5 : abΓ[5]? = some putPcS := rfl
theorem abg6 : abΓ[6]? = some putVecS := rfl
theorem abr0 (f : FuncId) : (formQ f).res = [.one .bool] := rfl
theorem abr2 : oRawS.res = [] := rfl
theorem abr3 : oFlagS.res = [] := rfl
theorem abr4 : oEndS.res = [.one .sl, .one (.int .i64)] := rfl
theorem abr5 : putPcS.res = [] := rfl
theorem abr6 : putVecS.res = [] := rfl
section
variable {q : Env} {n a m : Nat} {H R1 R2 : Hl} {bs : List Int} {A : Env → Hl → Prop} {K : Env → Prop} {v : Value}
theorem vec_len {vs : List Int} (h6 : vs.length = 6) (hu : u64s vs) : (vecB vs).length ≤ 60 := by
  match vs, h6 with
  | [v1, v2, v3, v4, v5, v6], _ =>
  have hv : ∀ z ∈ [v1, v2, v3, v4, v5, v6], 0 ≤ z ∧ z < 18446744073709551616 := hu
  simp only [List.mem_cons, List.mem_nil_iff, or_false, forall_eq_or_imp, forall_eq] at hv
  obtain ⟨u1, u2, u3, u4, u5, u6⟩ := hv
  have e : vecB [v1, v2, v3, v4, v5, v6] = numB v1.toNat ++ (numB v2.toNat ++ (numB v3.toNat ++ (numB v4.toNat ++ (numB v5.toNat ++ (numB v6.toNat ++ []))))) := rfl
  have a1 := lenB (z := v1.toNat) (by omega)
  have a2 := lenB (z := v2.toNat) (by omega)
  have a3 := lenB (z := v3.toNat) (by omega)
  have a4 := lenB (z := v4.toNat) (by omega)
  have a5 := lenB (z := v5.toNat) (by omega)
  have a6 := lenB (z := v6.toNat) (by omega)
  rw [e]
  simp only [List.length_append, List.length_nil]; omega
theorem vecP {vs : List Int} (h : OP H (q.i a) bs m) (hm : m ≤ 700000) (ha : a < n) (h6 : vs.length = 6) (hu : u64s vs) (k : ∀ q', Agree n q q' → OP (q'.h n) (q'.i a) (bs ++ vecB vs) (m + 60) → K q') :
    putVecS.pre [.pointer (slP (q.i a) 0), .agg (us vs).toArray] [H] [] ∧ ∀ q', Agree n q q' → (∃ F, putVecS.post [.pointer (slP (q.i a) 0), .agg (us vs).toArray] [H] [] v [q'.h n] F ∧ A q' F) → K q' := by
  refine ⟨⟨_, H, bs, vs, rfl, rfl, h.out, h6, hu, Nat.le_trans h.len hm⟩, fun q' g ⟨F, ⟨p', H1, bs', vs', H', e1, e2, hO, e3, hO'⟩, _⟩ => k q' g ?_⟩
  simp only [List.cons.injEq, Value.agg.injEq, and_true] at e1 e2 e3
  obtain ⟨e1, e4⟩ := e1
  obtain rfl := us_inj (List.toArray_inj e4)
  subst e1 e2
  obtain ⟨rfl, _⟩ := h.out.uniq hO
  refine ⟨?_, ?_⟩
  · rw [g.i a ha, e3]; exact hO'
  · have := h.len
    have := vec_len h6 hu
    rw [List.length_append]; omega
theorem pcB_len {row : List Value} {c : Pc} (hx : IsPc R1 R2 row c) (hc : c.b.length ≤ 4096) : (pcB c).length ≤ 5048 := by
  unfold pcB textBytes
  have a1 := bytesOf_len hx.hd
  have a2 := lenB (z := (bytesOfH c.h).length) (by omega)
  have a3 := lenB (z := c.b.length) (by omega)
  simp only [List.length_append]; omega
theorem pcP {row : List Value} {c : Pc} (h : OP H (q.i a) bs m) (hm : m ≤ 700000) (ha : a < n) (hx : IsPc R1 R2 row c) (hc : c.b.length ≤ 4096) (k : ∀ q', Agree n q q' → OP (q'.h n) (q'.i a) (bs ++ pcB c) (m + 5048) → K q') :
    putPcS.pre [.pointer (slP (q.i a) 0), .agg row.toArray] [H] [R1, R2] ∧ ∀ q', Agree n q q' → (∃ F, putPcS.post [.pointer (slP (q.i a) 0), .agg row.toArray] [H] [R1, R2] v [q'.h n] F ∧ A q' F) → K q' := by
  refine ⟨⟨_, row, H, R1, R2, bs, c, rfl, rfl, rfl, h.out, hx, hc, Nat.le_trans h.len hm⟩, fun q' g ⟨F, ⟨p', row', H1, R1', R2', bs', c', H', e1, e2, e3, hO, hx', e4, hO'⟩, _⟩ => k q' g ?_⟩
  simp only [List.cons.injEq, Value.agg.injEq, and_true] at e1 e2 e3 e4
  obtain ⟨e1, e5⟩ := e1
  obtain rfl := List.toArray_inj e5
  obtain ⟨rfl, rfl⟩ := e3
  subst e1 e2
  obtain ⟨rfl, _⟩ := h.out.uniq hO
  obtain rfl := hx.uniq hx'
  refine ⟨?_, ?_⟩
  · rw [g.i a ha, e4]; exact hO'
  · have := h.len
    have := pcB_len hx hc
    rw [List.length_append]; omega
theorem formQ_res {f : FuncId} {row : List Value} {R1 R2 R3 : Hl} {r : Rq} {Hs K : List Hl} {F : Hl} {n : Nat} (hx : IsRq R1 R2 R3 row r) (hp : (formQ f).post [.agg row.toArray] Hs [R1, R2, R3] (.bool (bev q (.bvar n))) K F) : (q.b n = true) = r.Form := by
  obtain ⟨row', R1', R2', R3', r', e1, e2, x', hv⟩ := hp
  simp only [List.cons.injEq, Value.agg.injEq, and_true] at e1 e2
  obtain ⟨rfl, rfl, rfl⟩ := e2
  obtain rfl := List.toArray_inj e1
  obtain rfl := hx.uniq x'
  exact bvT (by rw [hv]; simp)
theorem OP.to {q' : Env} {n : Nat} (h : OP H (q.i a) bs m) (g : Agree n q q') (ha : a < n) : OP H (q'.i a) bs m := ⟨by rw [g.i a ha]; exact h.out, h.len⟩
theorem OP.upto {x : Int} {m' : Nat} (h : OP H x bs m) (hm : m ≤ m') : OP H x bs m' := ⟨h.out, Nat.le_trans h.len hm⟩
theorem OP.new {a : Nat} (h : 0 ≤ q.i a) : OP (Hl.one (q.i a).toNat (.cells #[.slice none 0 0, .bool false] 53 (0, 0))) (q.i a) [] 0 := ⟨by rw [slP_pos h]; exact OutAt.new _, Nat.le_refl _⟩
end
theorem rq_B {R1 R2 R3 : Hl} {ρ : Env} {r : Rq} (hx : IsRq R1 R2 R3 (qrow ρ) r) : qB r = numB (ρ.i 0).toNat ++ numB (u64N (ρ.i 1)) ++ (if ρ.i 1 = 1 then pcB ⟨r.h, r.b⟩ else if ρ.i 1 = 2 then vecB [ρ.i 134, ρ.i 135, ρ.i 136, ρ.i 137, ρ.i 138, ρ.i 139] ++ flagB (ρ.b 140) ++ numB r.w.length ++ r.w.flatten ++ numB (u64N (ρ.i 145)) else if ρ.i 1 = 3 then numB (u64N (ρ.i 146)) ++ numB (ρ.i 147).toNat else []) := by
  obtain ⟨c0, c1, c2, c3, c4, c5⟩ := qrow_c ρ
  obtain ⟨n0, n1, n2, n3, n4, n5⟩ := qrow_n ρ
  have hs : segI r.c 128 6 = [ρ.i 134, ρ.i 135, ρ.i 136, ρ.i 137, ρ.i 138, ρ.i 139] := by
    show [cI r.c 128, cI r.c 129, cI r.c 130, cI r.c 131, cI r.c 132, cI r.c 133] = _
    rw [hx.I (k := 128) (by decide), hx.I (k := 129) (by decide), hx.I (k := 130) (by decide), hx.I (k := 131) (by decide), hx.I (k := 132) (by decide), hx.I (k := 133) (by decide), c0, c1, c2, c3, c4, c5]
  unfold qB kindB
  rw [hs, hx.I (k := 0) (by decide), hx.I (k := 1) (by decide), hx.I (k := 136) (by decide), hx.I (k := 137) (by decide), hx.I (k := 138) (by decide), hx.B (k := 134) (by decide), n0, n2, n3, n4, n5, show cI (qrow ρ) 0 = ρ.i 0 by kernel_rfl]
theorem rq_rng {R1 R2 R3 : Hl} {ρ : Env} {r : Rq} (hx : IsRq R1 R2 R3 (qrow ρ) r) : (0 ≤ ρ.i 0 ∧ ρ.i 0 < 18446744073709551616) ∧ (0 ≤ ρ.i 147 ∧ ρ.i 147 < 18446744073709551616) ∧ u64s [ρ.i 134, ρ.i 135, ρ.i 136, ρ.i 137, ρ.i 138, ρ.i 139] := by
  have g : ∀ (k : Nat) (z : Int), (qrow ρ)[k]? = some (.int .u64 z) → 0 ≤ z ∧ z < 18446744073709551616 := fun k z h => hx.rng _ (List.mem_of_getElem? h)
  refine ⟨g 0 _ (by kernel_rfl), g 138 _ (by kernel_rfl), ?_⟩
  intro z hz
  simp only [List.mem_cons, List.mem_nil_iff, or_false] at hz
  rcases hz with rfl | rfl | rfl | rfl | rfl | rfl
  · exact g 128 _ (by kernel_rfl)
  · exact g 129 _ (by kernel_rfl)
  · exact g 130 _ (by kernel_rfl)
  · exact g 131 _ (by kernel_rfl)
  · exact g 132 _ (by kernel_rfl)
  · exact g 133 _ (by kernel_rfl)
end Go.Proofs.Ytkdllpialpfopaa
