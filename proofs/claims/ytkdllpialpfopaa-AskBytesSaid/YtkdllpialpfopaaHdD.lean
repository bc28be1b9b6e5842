/- Layer 12: a header's core: entry.core as a contract. Condition: at most eight tokens. -/
import Derived.Test.YtkdllpialpfopaaHdB
set_option linter.unusedSimpArgs false
set_option linter.unusedVariables false
set_option linter.constructorNameAsVariable false
namespace Go.Proofs.Ytkdllpialpfopaa
open Go Go.Sx Go.Pk

def segI (l : List Value) (a n : Nat) : List Int := (List.range n).map fun j => cI l (a + j)
def u64N (z : Int) : Nat := (IntKind.u64.wrap z).toNat
def flagB (b : Bool) : List Int := [if b = true then 1 else 0]
def coreA (l : List Value) (n : Nat) : List Int := numB (u64N (cI l 0)) ++ numB (cI l 1).toNat ++ segI l 2 32 ++ numB (u64N (cI l 34)) ++ flagB (cB l 35) ++ numB (cI l 36).toNat ++ segI l 37 16 ++ numB n
def coreZ (l : List Value) (bs : List Int) : List Int := bs ++ numB (cI l 54).toNat ++ numB (cI l 55).toNat ++ numB (cI l 56).toNat ++ numB (cI l 57).toNat ++ numB (cI l 58).toNat ++ numB (cI l 59).toNat ++ segI l 60 32 ++ numB (u64N (cI l 92))
/-- A header's core's bytes. -/
def coreB (h : Hd) : List Int := coreZ h.c (coreA h.c h.t.length ++ h.t.flatten)
theorem u64N_lt (z : Int) : u64N z < 18446744073709551616 := by
  unfold u64N; rw [IntKind.wrap_u64]; omega
theorem u64_in (z : Int) : 0 ≤ IntKind.u64.wrap z ∧ IntKind.u64.wrap z < 18446744073709551616 := by
  rw [IntKind.wrap_u64]; omega
theorem rowOK_get : ∀ {row : List Value} {ks : List Kd} {k : Nat} {kd : Kd}, rowOK row ks → ks[k]? = some kd → ∃ v, row[k]? = some v ∧ valIs (some v) kd = true
  | [], [], k, kd, _, h => by simp at h
  | v :: l, kd' :: m, 0, kd, h, e => ⟨v, rfl, by rw [List.getElem?_cons_zero, Option.some.injEq] at e; subst e; exact h.1⟩
  | v :: l, kd' :: m, k + 1, kd, h, e => by
    rw [List.getElem?_cons_succ] at e ⊢
    exact rowOK_get h.2 e
theorem row_u8 {row : List Value} (h : rowOK row hkd) {k : Nat} (hk : hkd[k]? = some (.int .u8)) : row[k]? = some (.int .u8 (cI row k)) := by
  obtain ⟨v, hv, hi⟩ := rowOK_get h hk
  unfold cI
  rw [hv]
  cases v <;> simp [valIs] at hi
  subst hi; rfl
theorem row_u64 {row : List Value} (h : rowOK row hkd) {k : Nat} (hk : hkd[k]? = some (.int .u64)) : row[k]? = some (.int .u64 (cI row k)) := by
  obtain ⟨v, hv, hi⟩ := rowOK_get h hk
  unfold cI
  rw [hv]
  cases v <;> simp [valIs] at hi
  subst hi; rfl
theorem k_prev : ∀ j, j < 32 → hkd[2 + j]? = some (.int .u8) := by decide
theorem k_item : ∀ j, j < 16 → hkd[37 + j]? = some (.int .u8) := by decide
theorem k_sum : ∀ j, j < 32 → hkd[60 + j]? = some (.int .u8) := by decide
theorem k_code : ∀ j, j < 32 → hkd[93 + j]? = some (.int .u8) := by decide
theorem segI_len (l : List Value) (a n : Nat) : (segI l a n).length = n := by unfold segI; simp
theorem segI_at {row : List Value} (h : rowOK row hkd) {a n : Nat} (hk : ∀ j, j < n → hkd[a + j]? = some (.int .u8)) : ∀ j z, (segI row a n)[j]? = some z → row[a + j]? = some (.int .u8 z) := by
  intro j z hz
  have hj : j < n := by have := (List.getElem?_eq_some_iff.1 hz).1; rwa [segI_len] at this
  unfold segI at hz
  rw [List.getElem?_map, List.getElem?_range hj, Option.map_some, Option.some.injEq] at hz
  subst hz
  exact row_u8 h (hk j hj)
/-- Some bytes of a header that stands in a block. -/
theorem rdB_row {q : Env} {a : Nat} (h0 : 0 ≤ q.i a) (hr : rowOK (hrow q 0) hkd) {o n : Nat} (hk : ∀ j, j < n → hkd[o + j]? = some (.int .u8)) : RdB ((Res.blk a (ckCVs 0 hk2) 30).hl q) (.slice (slP (q.i a) (o : Int)) ((n : Int)).toNat ((n : Int)).toNat) (segI (hrow q 0) o n) :=
  rdB_blk h0 (segI_at hr hk) (segI_len _ _ _).symm
theorem numStep {q : Env} {n : Nat} {p v : Value} {z : Int} {H : Hl} {bs : List Int} {lg : Bool} {A : Env → Hl → Prop} {K : Env → Prop} (h : OutAt H p bs lg) (hz : 0 ≤ z ∧ z < 18446744073709551616) (hl : bs.length ≤ 900000) (k : ∀ q', Agree n q q' → OutAt (q'.h n) p (bs ++ numB z.toNat) lg → K q') :
    oNumS.pre [p, .int .u64 z] [H] [] ∧ ∀ q', Agree n q q' → (∃ F, oNumS.post [p, .int .u64 z] [H] [] v [q'.h n] F ∧ A q' F) → K q' := by
  refine ⟨⟨_, _, H, bs, lg, rfl, rfl, h, ⟨z, rfl, hz⟩, hl⟩, fun q' g ⟨F, hp, _⟩ => k q' g ?_⟩
  obtain ⟨H', hK, hO⟩ := op_post h hp
  have hK : q'.h n = H' := by simpa using hK
  rw [hK]; exact hO
theorem flagStep {q : Env} {n : Nat} {p v : Value} {b : Bool} {H : Hl} {bs : List Int} {lg : Bool} {A : Env → Hl → Prop} {K : Env → Prop} (h : OutAt H p bs lg) (hl : bs.length ≤ 900000) (k : ∀ q', Agree n q q' → OutAt (q'.h n) p (bs ++ flagB b) lg → K q') :
    oFlagS.pre [p, .bool b] [H] [] ∧ ∀ q', Agree n q q' → (∃ F, oFlagS.post [p, .bool b] [H] [] v [q'.h n] F ∧ A q' F) → K q' := by
  refine ⟨⟨_, _, H, bs, lg, rfl, rfl, h, ⟨b, rfl⟩, hl⟩, fun q' g ⟨F, hp, _⟩ => k q' g ?_⟩
  obtain ⟨H', hK, hO⟩ := op_post h hp
  have hK : q'.h n = H' := by simpa using hK
  rw [hK]; exact hO
theorem rawStep {q : Env} {n : Nat} {p u v : Value} {H R : Hl} {bs b2 : List Int} {lg : Bool} {A : Env → Hl → Prop} {K : Env → Prop} (h : OutAt H p bs lg) (h2 : RdW R u b2) (hl : bs.length ≤ 900000) (hl2 : b2.length ≤ 90000) (k : ∀ q', Agree n q q' → OutAt (q'.h n) p (bs ++ b2) lg → K q') :
    oRawS.pre [p, u] [H] [R] ∧ ∀ q', Agree n q q' → (∃ F, oRawS.post [p, u] [H] [R] v [q'.h n] F ∧ A q' F) → K q' := by
  refine ⟨⟨_, _, H, R, bs, lg, b2, rfl, rfl, rfl, h, h2, hl, hl2⟩, fun q' g ⟨F, hp, _⟩ => k q' g ?_⟩
  obtain ⟨H', hK, hO⟩ := raw_post h h2 hp
  have hK : q'.h n = H' := by simpa using hK
  rw [hK]; exact hO
theorem flat16 : ∀ {T : List (List Int)}, (∀ t ∈ T, t.length = 16) → T.flatten.length = T.length * 16
  | [], _ => rfl
  | t :: T, h => by
    rw [List.flatten_cons, List.length_append, h t (List.mem_cons_self ..), flat16 (fun u hu => h u (List.mem_cons_of_mem _ hu)), List.length_cons]; omega
theorem slP_eq {a b x y : Int} (hx : 0 ≤ x) (hy : 0 ≤ y) (hb : 0 ≤ b) (h : slP a b = slP x y) : a = x ∧ b = y := by
  rcases Int.lt_or_le a 0 with ha | ha
  · exfalso
    rw [slP_pos hx] at h
    unfold slP at h
    rw [if_neg (by omega)] at h
    split at h
    · cases h
    · simp only [Option.some.injEq, Addr.mk.injEq] at h
      obtain ⟨_, _, h⟩ := h
      cases h
  · rw [slP_pos ha, slP_pos hx] at h
    simp only [Option.some.injEq, Addr.mk.injEq] at h
    omega
theorem lenB {z : Nat} (h : z < 18446744073709551616) : (numB z).length ≤ 10 := num_bound h
noncomputable def coreS (f : FuncId) : Sx.Spec where
  fn := f
  own := []
  rd := [10053]
  res := [.one .sl]
  pre := fun xs Hs Rs => ∃ row R h, xs = [.agg row.toArray] ∧ Rs = [R] ∧ IsHd R row h ∧ h.t.length ≤ 8
  post := fun xs Hs Rs v Hs' F => ∃ row R h, xs = [.agg row.toArray] ∧ Rs = [R] ∧ IsHd R row h ∧ OwB F 5 v (coreB h)
def eCoreNd : Nd := .ext (.alloc 131) (.ext (.alloc 132) (.and (.pre (.call 0 133 [.sv (.one (.hptr (.var 132) (.lit 0))), .sv (.one (.int .u64 (.wrap .u64 (.var 0))))] [.blk 132 [.sl (.lit (-1)) (.lit 0) (.lit 0) (.lit 0), .bool .ff] 53] [])) (.ext (.call 0 133 [.sv (.one (.hptr (.var 132) (.lit 0))), .sv (.one (.int .u64 (.wrap .u64 (.var 0))))] [.blk 132 [.sl (.lit (-1)) (.lit 0) (.lit 0) (.lit 0), .bool .ff] 53] []) (.and (.pre (.call 0 135 [.sv (.one (.hptr (.var 132) (.lit 0))), .sv (.one (.int .u64 (.var 1)))] [.hp 133 [] [.var 132] []] [])) (.ext (.call 0 135 [.sv (.one (.hptr (.var 132) (.lit 0))), .sv (.one (.int .u64 (.var 1)))] [.hp 133 [] [.var 132] []] []) (.and (.pre (.call 1 137 [.sv (.one (.hptr (.var 132) (.lit 0))), .sv (.one (.sl (.var 131) (.lit 2) (.lit 32) (.lit 32)))] [.hp 135 [133] [.var 132] []] [.blk 131 (ckCVs 0 hk2) 30])) (.ext (.call 1 137 [.sv (.one (.hptr (.var 132) (.lit 0))), .sv (.one (.sl (.var 131) (.lit 2) (.lit 32) (.lit 32)))] [.hp 135 [133] [.var 132] []] [.blk 131 (ckCVs 0 hk2) 30]) (.and (.pre (.call 0 139 [.sv (.one (.hptr (.var 132) (.lit 0))), .sv (.one (.int .u64 (.wrap .u64 (.var 34))))] [.hp 137 [135, 133] [.var 132] []] [])) (.ext (.call 0 139 [.sv (.one (.hptr (.var 132) (.lit 0))), .sv (.one (.int .u64 (.wrap .u64 (.var 34))))] [.hp 137 [135, 133] [.var 132] []] []) (.and (.pre (.call 2 141 [.sv (.one (.hptr (.var 132) (.lit 0))), .sv (.one (.bool (.bvar 35)))] [.hp 139 [137, 135, 133] [.var 132] []] [])) (.ext (.call 2 141 [.sv (.one (.hptr (.var 132) (.lit 0))), .sv (.one (.bool (.bvar 35)))] [.hp 139 [137, 135, 133] [.var 132] []] []) (.and (.pre (.call 0 143 [.sv (.one (.hptr (.var 132) (.lit 0))), .sv (.one (.int .u64 (.var 36)))] [.hp 141 [139, 137, 135, 133] [.var 132] []] [])) (.ext (.call 0 143 [.sv (.one (.hptr (.var 132) (.lit 0))), .sv (.one (.int .u64 (.var 36)))] [.hp 141 [139, 137, 135, 133] [.var 132] []] []) (.and (.pre (.call 1 145 [.sv (.one (.hptr (.var 132) (.lit 0))), .sv (.one (.sl (.var 131) (.lit 37) (.lit 16) (.lit 16)))] [.hp 143 [141, 139, 137, 135, 133] [.var 132] []] [.blk 131 (ckCVs 0 hk2) 30])) (.ext (.call 1 145 [.sv (.one (.hptr (.var 132) (.lit 0))), .sv (.one (.sl (.var 131) (.lit 37) (.lit 16) (.lit 16)))] [.hp 143 [141, 139, 137, 135, 133] [.var 132] []] [.blk 131 (ckCVs 0 hk2) 30]) (.and (.e (.le (.lit 0) (.var 55))) (.and (.pre (.call 0 147 [.sv (.one (.hptr (.var 132) (.lit 0))), .sv (.one (.int .u64 (.wrap .u64 (.var 55))))] [.hp 145 [143, 141, 139, 137, 135, 133] [.var 132] []] [])) (.ext (.call 0 147 [.sv (.one (.hptr (.var 132) (.lit 0))), .sv (.one (.int .u64 (.wrap .u64 (.var 55))))] [.hp 145 [143, 141, 139, 137, 135, 133] [.var 132] []] []) (.and (.inv 0 [⟨201, 0, .int .i64 (.lit 0)⟩] [(202, some 147)]) (.havoc 0 0 149 (.and (.imp (.lt (.var 201) (.var 55)) (.and (.e (.le (.lit 0) (.var 53))) (.and (.e (.le (.lit 0) (.var 54))) (.and (.e (.le (.lit 0) (.var 201))) (.and (.e (.hby 130 (.var 53) (.add (.var 54) (.mul (.var 201) (.lit 16))) (.lit 16))) (.ext (.alloc 210) (.and (.pre (.call 1 211 [.sv (.one (.hptr (.var 132) (.lit 0))), .sv (.one (.sl (.var 210) (.lit 0) (.lit 16) (.lit 16)))] [.hp 202 [] [.var 132] []] [.blk 210 (romCells 130 (.var 53) (.add (.var 54) (.mul (.var 201) (.lit 16))) 0 (List.replicate 16 (Kd.int .u8))) 26])) (.ext (.call 1 211 [.sv (.one (.hptr (.var 132) (.lit 0))), .sv (.one (.sl (.var 210) (.lit 0) (.lit 16) (.lit 16)))] [.hp 202 [] [.var 132] []] [.blk 210 (romCells 130 (.var 53) (.add (.var 54) (.mul (.var 201) (.lit 16))) 0 (List.replicate 16 (Kd.int .u8))) 26]) (.back 0 0 [⟨201, 0, .int .i64 (.wrap .i64 (.add (.var 201) (.lit 1)))⟩] [(202, some 211)]))))))))) (.imp (.not (.lt (.var 201) (.var 55))) (.and (.pre (.call 0 210 [.sv (.one (.hptr (.var 132) (.lit 0))), .sv (.one (.int .u64 (.var 57)))] [.hp 202 [] [.var 132] []] [])) (.ext (.call 0 210 [.sv (.one (.hptr (.var 132) (.lit 0))), .sv (.one (.int .u64 (.var 57)))] [.hp 202 [] [.var 132] []] []) (.and (.pre (.call 0 212 [.sv (.one (.hptr (.var 132) (.lit 0))), .sv (.one (.int .u64 (.var 58)))] [.hp 210 [202] [.var 132] []] [])) (.ext (.call 0 212 [.sv (.one (.hptr (.var 132) (.lit 0))), .sv (.one (.int .u64 (.var 58)))] [.hp 210 [202] [.var 132] []] []) (.and (.pre (.call 0 214 [.sv (.one (.hptr (.var 132) (.lit 0))), .sv (.one (.int .u64 (.var 59)))] [.hp 212 [210, 202] [.var 132] []] [])) (.ext (.call 0 214 [.sv (.one (.hptr (.var 132) (.lit 0))), .sv (.one (.int .u64 (.var 59)))] [.hp 212 [210, 202] [.var 132] []] []) (.and (.pre (.call 0 216 [.sv (.one (.hptr (.var 132) (.lit 0))), .sv (.one (.int .u64 (.var 60)))] [.hp 214 [212, 210, 202] [.var 132] []] [])) (.ext (.call 0 216 [.sv (.one (.hptr (.var 132) (.lit 0))), .sv (.one (.int .u64 (.var 60)))] [.hp 214 [212, 210, 202] [.var 132] []] []) (.and (.pre (.call 0 218 [.sv (.one (.hptr (.var 132) (.lit 0))), .sv (.one (.int .u64 (.var 61)))] [.hp 216 [214, 212, 210, 202] [.var 132] []] [])) (.ext (.call 0 218 [.sv (.one (.hptr (.var 132) (.lit 0))), .sv (.one (.int .u64 (.var 61)))] [.hp 216 [214, 212, 210, 202] [.var 132] []] []) (.and (.pre (.call 0 220 [.sv (.one (.hptr (.var 132) (.lit 0))), .sv (.one (.int .u64 (.var 62)))] [.hp 218 [216, 214, 212, 210, 202] [.var 132] []] [])) (.ext (.call 0 220 [.sv (.one (.hptr (.var 132) (.lit 0))), .sv (.one (.int .u64 (.var 62)))] [.hp 218 [216, 214, 212, 210, 202] [.var 132] []] []) (.and (.pre (.call 1 222 [.sv (.one (.hptr (.var 132) (.lit 0))), .sv (.one (.sl (.var 131) (.lit 60) (.lit 32) (.lit 32)))] [.hp 220 [218, 216, 214, 212, 210, 202] [.var 132] []] [.blk 131 (ckCVs 0 hk2) 30])) (.ext (.call 1 222 [.sv (.one (.hptr (.var 132) (.lit 0))), .sv (.one (.sl (.var 131) (.lit 60) (.lit 32) (.lit 32)))] [.hp 220 [218, 216, 214, 212, 210, 202] [.var 132] []] [.blk 131 (ckCVs 0 hk2) 30]) (.and (.pre (.call 0 224 [.sv (.one (.hptr (.var 132) (.lit 0))), .sv (.one (.int .u64 (.wrap .u64 (.var 95))))] [.hp 222 [220, 218, 216, 214, 212, 210, 202] [.var 132] []] [])) (.ext (.call 0 224 [.sv (.one (.hptr (.var 132) (.lit 0))), .sv (.one (.int .u64 (.wrap .u64 (.var 95))))] [.hp 222 [220, 218, 216, 214, 212, 210, 202] [.var 132] []] []) (.and (.pre (.call 3 226 [.sv (.one (.hptr (.var 132) (.lit 0)))] [] [.hp 224 [222, 220, 218, 216, 214, 212, 210, 202] [.var 132] []])) (.ext (.call 3 226 [.sv (.one (.hptr (.var 132) (.lit 0)))] [] [.hp 224 [222, 220, 218, 216, 214, 212, 210, 202] [.var 132] []]) (.post [.ro 130 [.var 53] false, .dead, .hp 224 [222, 220, 218, 216, 214, 212, 210, 202] [.var 132] [], .hp 226 [] [.var 226] []] (.sv (.one (.sl (.var 226) (.var 227) (.var 228) (.var 229)))))))))))))))))))))))))))))))))))))))))))))
def eoΓ : List Sx.Spec := [oNumS, oRawS, oFlagS, oEndS]
theorem eoΓ_ok : ∀ t ∈ eoΓ, t.OK Try.prog := fun t ht => by
  simp only [eoΓ, List.mem_cons, List.mem_nil_iff, or_false] at ht
  rcases ht with rfl | rfl | rfl | rfl
  · exact oNumS_ok
  · exact oRawS_ok
  · exact oFlagS_ok
  · exact oEndS_ok
theorem eg0 : eoΓ[0]? = some oNumS := rfl
theorem eg1 : eoΓ[1]? = some oRawS := rfl
theorem eg2 : eoΓ[2]? = some oFlagS := rfl
theorem eg3 : eoΓ[3]? = some oEndS := rfl
theorem er0 : oNumS.res = [] := rfl
theorem er1 : oRawS.res = [] := rfl
theorem er2 : oFlagS.res = [] := rfl
theorem er3 : oEndS.res = [.one .sl, .one (.int .i64)] := rfl
theorem eo0 : oNumS.own = [.arg 0] := rfl
def eCoreW : Walk Try.prog eoΓ 59 where
  Λ := fun p => if decide (p.length = 14) && !(p.head? == some 99) then some ⟨0, [(41, TI .i64 (.var 201))], [(2, .hp 202 [] [.var 132] [])], 210⟩ else none
  args := (cpSVs 0 [.agg hk2]).map .sv
  mem := [.ro 130 [.var 53] false]
  nv := 131
  nd := eCoreNd
  ok := by kernel_rfl
theorem end_post {p v n : Value} {R F : Hl} {bs : List Int} {lg : Bool} {K : List Hl} (h : OutAt R p bs lg) (hp : oEndS.post [p] [] [R] (.tuple #[v, n]) K F) : OwB F 5 v (endR bs lg).1 := by
  obtain ⟨p', R', bs', lg', u, e1, e2, hO, hv, hw⟩ := hp
  simp only [List.cons.injEq, and_true] at e1 e2
  subst e1 e2
  obtain ⟨e1, e2⟩ := h.uniq hO
  subst e1 e2
  simp only [Value.tuple.injEq, Array.mk.injEq, List.cons.injEq, and_true] at hv
  rw [hv.1]; exact hw
theorem core_row {R : Hl} {row : List Value} {h : Hd} (x : IsHd R row h) : coreB h = coreZ row (coreA row h.t.length ++ h.t.flatten) := by
  have hs : ∀ a n, (∀ j, j < n → a + j ≠ 53) → segI h.c a n = segI row a n := fun a n ha => List.map_congr_left fun j hj => x.I (ha j (List.mem_range.1 hj))
  unfold coreB coreZ coreA
  rw [hs 2 32 (fun j hj => by omega), hs 37 16 (fun j hj => by omega), hs 60 32 (fun j hj => by omega), x.I (k := 0) (by decide), x.I (k := 1) (by decide), x.I (k := 34) (by decide), x.B (k := 35) (by decide), x.I (k := 36) (by decide), x.I (k := 54) (by decide), x.I (k := 55) (by decide), x.I (k := 56) (by decide), x.I (k := 57) (by decide), x.I (k := 58) (by decide), x.I (k := 59) (by decide), x.I (k := 92) (by decide)]
theorem eCoreS_ok : (coreS 59).OK Try.prog := by
  refine Spec.of_fn (Γ := eoΓ) eoΓ_ok ?_
  rintro xs Hs Rs hl1 hl2 ⟨row, R, h, rfl, rfl, hx, h8⟩
  have e0 : Hs = [] := List.length_eq_zero_iff.1 hl1
  subst e0
  obtain ⟨ρ, rfl, w130, hnw, n54, n55, n56⟩ := hdr_env (R := R) hx.ok
  refine ⟨eCoreW, ρ, fun _ q => ∃ i : Nat, q.i 201 = i ∧ i ≤ h.t.length ∧ OutAt (q.h 202) (.pointer (slP (q.i 132) 0)) (coreA (hrow ρ 0) h.t.length ++ (h.t.take i).flatten) false, fun _ q => (h.t.length - q.i 201).toNat, rfl, ⟨?_, ?_, ?_, ?_⟩, (fun _ h => nomatch h), ?_⟩
  · intro r hr ho; simp [eCoreW] at hr; subst hr; cases ho
  · intro r hr ho; simp [eCoreW] at hr; subst hr; exact ⟨R, by simp, by show (ρ.h 130).le R; rw [w130]; exact Hl.le_refl _⟩
  · simp [eCoreW]
  · intro r hr; simp [eCoreW] at hr; subst hr; trivial
  · show Nd.holds _ _ _ eCoreNd
    unfold eCoreNd
    simp only [Nd.holds, X.pre, X.rel, X.n, Src.ok, Src.len, Src.vals, true_and, and_true, if_true, Nat.mul_one, Nat.add_zero, Nat.reduceAdd, List.length_cons, List.length_nil, bT_tt, bT_ff, bT_bvar, bT_not, bT_and, bT_or, bT_ite, bT_lt, bT_le, bT_eq, bT_beq, bT_seq, bT_hB, bT_his, bT_hby, bT_hism, bT_hks, iev_lit, iev_var, iev_add, iev_sub, iev_mul, iev_wrap, iev_ite, iev_hI, iev_hP, iev_hmlen, sev_ite, sev_slit, sev_sof, sev_svar, TV.ev, SV.ev, CV.ev, List.map_cons, List.map_nil, Res.hl, cpTV, Cp.sv, Ck.cv, cpSVs, Cp.len, Ck.len, newHs_zero, newHs_one, roots_ne, eg0, er0, eg1, er1, eg2, er2, eg3, er3]
    intro q1 g1 p1 q2 g2 p2
    have hrg := hx.rng
    have r1 : 0 ≤ ρ.i 1 ∧ ρ.i 1 < 18446744073709551616 := hrg (.int .u64 (ρ.i 1)) (List.mem_of_getElem? (i := 1) rfl)
    have r36 : 0 ≤ ρ.i 36 ∧ ρ.i 36 < 18446744073709551616 := hrg (.int .u64 (ρ.i 36)) (List.mem_of_getElem? (i := 36) rfl)
    have r57 : 0 ≤ ρ.i 57 ∧ ρ.i 57 < 18446744073709551616 := hrg (.int .u64 (ρ.i 57)) (List.mem_of_getElem? (i := 54) rfl)
    have r58 : 0 ≤ ρ.i 58 ∧ ρ.i 58 < 18446744073709551616 := hrg (.int .u64 (ρ.i 58)) (List.mem_of_getElem? (i := 55) rfl)
    have r59 : 0 ≤ ρ.i 59 ∧ ρ.i 59 < 18446744073709551616 := hrg (.int .u64 (ρ.i 59)) (List.mem_of_getElem? (i := 56) rfl)
    have r60 : 0 ≤ ρ.i 60 ∧ ρ.i 60 < 18446744073709551616 := hrg (.int .u64 (ρ.i 60)) (List.mem_of_getElem? (i := 57) rfl)
    have r61 : 0 ≤ ρ.i 61 ∧ ρ.i 61 < 18446744073709551616 := hrg (.int .u64 (ρ.i 61)) (List.mem_of_getElem? (i := 58) rfl)
    have r62 : 0 ≤ ρ.i 62 ∧ ρ.i 62 < 18446744073709551616 := hrg (.int .u64 (ρ.i 62)) (List.mem_of_getElem? (i := 59) rfl)
    have hlen : (ρ.i 55).toNat = h.t.length := rd_len hx.tok
    have G2 : Agree 131 ρ q2 := g1.trans (g2.mono (by omega))
    have P2 : 0 ≤ q2.i 131 := by rw [g2.i 131 (by omega)]; exact p1
    have h2 : OutAt (Hl.one (q2.i 132).toNat (Obj.cells #[Value.slice (slP (-1) 0) (Int.toNat 0) (Int.toNat 0), Value.bool (bev q2 E.ff)] 53 (0, 0))) (Value.pointer (slP (q2.i 132) 0)) [] false := by rw [slP_pos p2]; exact OutAt.new _
    have l2 : ([] : List Int).length ≤ 0 := Nat.le_refl 0
    rw [G2.i 0 (by omega)]
    refine numStep h2 (u64_in _) (by omega) fun q3 g3 h3 => ?_
    have G3 : Agree 131 ρ q3 := G2.trans (g3.mono (by omega))
    have P3 : 0 ≤ q3.i 131 := by rw [g3.i 131 (by omega)]; exact P2
    rw [← g3.i 132 (by omega)] at h3
    have h3 : OutAt (q3.h _) (.pointer (slP (q3.i 132) 0)) (numB (u64N (ρ.i 0))) false := h3
    have b3 : (numB (u64N (ρ.i 0))).length ≤ 10 := lenB (u64N_lt _)
    have l3 := Nat.add_le_add l2 b3
    have l3 := b3
    rw [G3.i 1 (by omega)]
    refine numStep h3 r1 (by omega) fun q4 g4 h4 => ?_
    have G4 : Agree 131 ρ q4 := G3.trans (g4.mono (by omega))
    have P4 : 0 ≤ q4.i 131 := by rw [g4.i 131 (by omega)]; exact P3
    rw [← g4.i 132 (by omega)] at h4
    have h4 : OutAt (q4.h _) (.pointer (slP (q4.i 132) 0)) (numB (u64N (ρ.i 0)) ++ numB (ρ.i 1).toNat) false := h4
    have b4 : (numB (ρ.i 1).toNat).length ≤ 10 := lenB (z := (ρ.i 1).toNat) (by omega)
    have l4 := Nat.add_le_add l3 b4
    rw [← List.length_append] at l4
    have rd4 := rdB_row (n := 32) P4 (by rw [hrow_ag (G4.mono (by omega))]; exact hx.ok) k_prev
    rw [hrow_ag (G4.mono (by omega))] at rd4
    refine rawStep h4 rd4.w (by omega) (by rw [segI_len]; omega) fun q5 g5 h5 => ?_
    have G5 : Agree 131 ρ q5 := G4.trans (g5.mono (by omega))
    have P5 : 0 ≤ q5.i 131 := by rw [g5.i 131 (by omega)]; exact P4
    rw [← g5.i 132 (by omega)] at h5
    have h5 : OutAt (q5.h _) (.pointer (slP (q5.i 132) 0)) (numB (u64N (ρ.i 0)) ++ numB (ρ.i 1).toNat ++ segI (hrow ρ 0) 2 32) false := h5
    have b5 : (segI (hrow ρ 0) 2 32).length ≤ 32 := Nat.le_of_eq (segI_len _ _ _)
    have l5 := Nat.add_le_add l4 b5
    rw [← List.length_append] at l5
    rw [G5.i 34 (by omega)]
    refine numStep h5 (u64_in _) (by omega) fun q6 g6 h6 => ?_
    have G6 : Agree 131 ρ q6 := G5.trans (g6.mono (by omega))
    have P6 : 0 ≤ q6.i 131 := by rw [g6.i 131 (by omega)]; exact P5
    rw [← g6.i 132 (by omega)] at h6
    have h6 : OutAt (q6.h _) (.pointer (slP (q6.i 132) 0)) (numB (u64N (ρ.i 0)) ++ numB (ρ.i 1).toNat ++ segI (hrow ρ 0) 2 32 ++ numB (u64N (ρ.i 34))) false := h6
    have b6 : (numB (u64N (ρ.i 34))).length ≤ 10 := lenB (u64N_lt _)
    have l6 := Nat.add_le_add l5 b6
    rw [← List.length_append] at l6
    rw [bev_bvar, G6.b 35 (by omega)]
    refine flagStep h6 (by omega) fun q7 g7 h7 => ?_
    have G7 : Agree 131 ρ q7 := G6.trans (g7.mono (by omega))
    have P7 : 0 ≤ q7.i 131 := by rw [g7.i 131 (by omega)]; exact P6
    rw [← g7.i 132 (by omega)] at h7
    have h7 : OutAt (q7.h _) (.pointer (slP (q7.i 132) 0)) (numB (u64N (ρ.i 0)) ++ numB (ρ.i 1).toNat ++ segI (hrow ρ 0) 2 32 ++ numB (u64N (ρ.i 34)) ++ flagB (ρ.b 35)) false := h7
    have b7 : (flagB (ρ.b 35)).length ≤ 1 := Nat.le_refl 1
    have l7 := Nat.add_le_add l6 b7
    rw [← List.length_append] at l7
    rw [G7.i 36 (by omega)]
    refine numStep h7 r36 (by omega) fun q8 g8 h8 => ?_
    have G8 : Agree 131 ρ q8 := G7.trans (g8.mono (by omega))
    have P8 : 0 ≤ q8.i 131 := by rw [g8.i 131 (by omega)]; exact P7
    rw [← g8.i 132 (by omega)] at h8
    have h8 : OutAt (q8.h _) (.pointer (slP (q8.i 132) 0)) (numB (u64N (ρ.i 0)) ++ numB (ρ.i 1).toNat ++ segI (hrow ρ 0) 2 32 ++ numB (u64N (ρ.i 34)) ++ flagB (ρ.b 35) ++ numB (ρ.i 36).toNat) false := h8
    have b8 : (numB (ρ.i 36).toNat).length ≤ 10 := lenB (z := (ρ.i 36).toNat) (by omega)
    have l8 := Nat.add_le_add l7 b8
    rw [← List.length_append] at l8
    have rd8 := rdB_row (n := 16) P8 (by rw [hrow_ag (G8.mono (by omega))]; exact hx.ok) k_item
    rw [hrow_ag (G8.mono (by omega))] at rd8
    refine rawStep h8 rd8.w (by omega) (by rw [segI_len]; omega) fun q9 g9 h9 => ?_
    have G9 : Agree 131 ρ q9 := G8.trans (g9.mono (by omega))
    have P9 : 0 ≤ q9.i 131 := by rw [g9.i 131 (by omega)]; exact P8
    rw [← g9.i 132 (by omega)] at h9
    have h9 : OutAt (q9.h _) (.pointer (slP (q9.i 132) 0)) (numB (u64N (ρ.i 0)) ++ numB (ρ.i 1).toNat ++ segI (hrow ρ 0) 2 32 ++ numB (u64N (ρ.i 34)) ++ flagB (ρ.b 35) ++ numB (ρ.i 36).toNat ++ segI (hrow ρ 0) 37 16) false := h9
    have b9 : (segI (hrow ρ 0) 37 16).length ≤ 16 := Nat.le_of_eq (segI_len _ _ _)
    have l9 := Nat.add_le_add l8 b9
    rw [← List.length_append] at l9
    rw [G9.i 55 (by omega)]
    refine ⟨n55, ?_⟩
    have ew : IntKind.u64.wrap (ρ.i 55) = h.t.length := by rw [wu64 (by omega) (by omega)]; omega
    rw [ew]
    refine numStep h9 (by omega) (by omega) fun q10 g10 h10 => ?_
    rw [Int.toNat_natCast] at h10
    have G10 : Agree 131 ρ q10 := G9.trans (g10.mono (by omega))
    have P10 : 0 ≤ q10.i 131 := by rw [g10.i 131 (by omega)]; exact P9
    rw [← g10.i 132 (by omega)] at h10
    have h10 : OutAt (q10.h _) (.pointer (slP (q10.i 132) 0)) (numB (u64N (ρ.i 0)) ++ numB (ρ.i 1).toNat ++ segI (hrow ρ 0) 2 32 ++ numB (u64N (ρ.i 34)) ++ flagB (ρ.b 35) ++ numB (ρ.i 36).toNat ++ segI (hrow ρ 0) 37 16 ++ numB h.t.length) false := h10
    have b10 : (numB h.t.length).length ≤ 10 := lenB (z := h.t.length) (by omega)
    have l10 := Nat.add_le_add l9 b10
    rw [← List.length_append] at l10
    have hA : OutAt (q10.h 147) (.pointer (slP (q10.i 132) 0)) (coreA (hrow ρ 0) h.t.length) false := h10
    have lA : (coreA (hrow ρ 0) h.t.length).length ≤ 99 := l10
    refine ⟨⟨0, rfl, Nat.zero_le _, ?_⟩, fun q g ⟨i, ei, hi, hO⟩ => ?_⟩
    · show OutAt (q10.h 147) (.pointer (slP (q10.i 132) 0)) (coreA (hrow ρ 0) h.t.length ++ (h.t.take 0).flatten) false
      rw [List.take_zero, List.flatten_nil, List.append_nil]; exact hA
    have G : Agree 131 ρ q := G10.trans (g.mono (by omega))
    have P : 0 ≤ q.i 131 := by rw [g.i 131 (by omega)]; exact P10
    have ht16 : ∀ t ∈ h.t, t.length = 16 := fun t ht => (hx.byte.2 t ht).1
    have lF : ∀ i, i ≤ h.t.length → ((h.t.take i).flatten).length ≤ 128 := fun i hi => by
      rw [flat16 (fun t ht => ht16 t (List.mem_of_mem_take ht)), List.length_take]; omega
    rw [G.i 55 (by omega), ei]
    refine ⟨fun hlt => ?_, fun hge => ?_⟩
    · have hiT : i < h.t.length := by omega
      obtain ⟨x, y, c, eS, hy, hrows⟩ := id hx.tok
      have eS : Value.slice (slP (ρ.i 53) (ρ.i 54)) (ρ.i 55).toNat (ρ.i 56).toNat = .slice (slP x y) (h.t.map bys).length c := eS
      rcases hrows with hn | ⟨hx0, hc⟩
      · rw [List.map_eq_nil_iff] at hn
        rw [hn] at hiT; cases hiT
      simp only [Value.slice.injEq] at eS
      obtain ⟨hx53, hy54⟩ := slP_eq hx0 hy n54 eS.1
      have ht := List.getElem?_eq_getElem hiT
      have m1 := hx.byte.2 _ (List.mem_of_getElem? ht)
      obtain ⟨b1, r1⟩ := tok_at (ρ := q) (h := 130) (X := .var 53) (Y := (E.var 54).add ((E.var 201).mul (E.lit 16))) hx0 hy hc ht m1.1 (by rw [G.h 130 (by omega), w130]) (by rw [iev_var, G.i 53 (by omega), hx53]) (by
        simp only [iev_add, iev_mul, iev_var, iev_lit]
        rw [G.i 54 (by omega), hy54, ei])
      rw [G.i 53 (by omega), G.i 54 (by omega), G.h 130 (by omega), w130, hx53, hy54]
      refine ⟨hx0, hy, by omega, b1, fun q1 g1 p210 => ?_⟩
      have r1' : (romCells 130 (E.var 53) ((E.var 54).add ((E.var 201).mul (E.lit 16))) 0 (List.replicate 16 (Kd.int .u8))).map (CV.ev q1) = bys h.t[i] := by
        have := tok_at (ρ := q1) (h := 130) (X := .var 53) (Y := (E.var 54).add ((E.var 201).mul (E.lit 16))) hx0 hy hc ht m1.1 (by rw [g1.h 130 (by omega), G.h 130 (by omega), w130]) (by rw [iev_var, g1.i 53 (by omega), G.i 53 (by omega), hx53]) (by
          simp only [iev_add, iev_mul, iev_var, iev_lit]
          rw [g1.i 54 (by omega), g1.i 201 (by omega), G.i 54 (by omega), hy54, ei])
        exact this.2
      have rdT := rdB_blk (q := q1) (T := 26) (l := h.t[i]) (a := 210) (o := 0) (n := 16) (c := 16) p210 (cs := romCells 130 (E.var 53) ((E.var 54).add ((E.var 201).mul (E.lit 16))) 0 (List.replicate 16 (Kd.int .u8))) (by
        intro j z hz
        rw [r1', Nat.zero_add]; unfold bys; rw [List.getElem?_map, hz]; rfl) m1.1.symm
      rw [← g1.i 132 (by omega), ← g1.h 202 (by omega)] at hO
      have := lF i hi
      refine rawStep hO rdT.w (by rw [List.length_append]; omega) (by omega) fun q2 g2 h2 => ?_
      rw [← g2.i 132 (by omega)] at h2
      have ew : IntKind.i64.wrap (q2.i 201 + 1) = ((i + 1 : Nat) : Int) := by rw [g2.i 201 (by omega), g1.i 201 (by omega), ei, IntWalk.i64_in _ (by omega)]; omega
      refine ⟨⟨i + 1, ew, by omega, ?_⟩, ?_⟩
      · show OutAt (q2.h 211) (.pointer (slP (q2.i 132) 0)) _ false
        rw [List.take_add_one, ht, Option.toList_some, List.flatten_append, List.flatten_cons, List.flatten_nil, List.append_nil, ← List.append_assoc]
        exact h2
      · show ((h.t.length : Int) - IntKind.i64.wrap (q2.i 201 + 1)).toNat < _
        rw [ew]; omega
    have hi' : i = h.t.length := by omega
    rw [hi', List.take_length] at hO
    have lF := lF h.t.length (Nat.le_refl _)
    rw [List.take_length] at lF
    have l20 := Nat.add_le_add lA lF
    rw [← List.length_append] at l20
    have h20 := hO; have G20 := G; have P20 := P
    clear hO G P hA lA h2 l2 h3 l3 h4 l4 h5 l5 h6 l6 h7 l7 h8 l8 h9 l9 h10 l10
    rw [G20.i 57 (by omega)]
    refine numStep h20 r57 (by omega) fun q21 g21 h21 => ?_
    have G21 : Agree 131 ρ q21 := G20.trans (g21.mono (by omega))
    have P21 : 0 ≤ q21.i 131 := by rw [g21.i 131 (by omega)]; exact P20
    rw [← g21.i 132 (by omega)] at h21
    have h21 : OutAt (q21.h _) (.pointer (slP (q21.i 132) 0)) (coreA (hrow ρ 0) h.t.length ++ h.t.flatten ++ numB (ρ.i 57).toNat) false := h21
    have b21 : (numB (ρ.i 57).toNat).length ≤ 10 := lenB (z := (ρ.i 57).toNat) (by omega)
    have l21 := Nat.add_le_add l20 b21
    rw [← List.length_append] at l21
    rw [G21.i 58 (by omega)]
    refine numStep h21 r58 (by omega) fun q22 g22 h22 => ?_
    have G22 : Agree 131 ρ q22 := G21.trans (g22.mono (by omega))
    have P22 : 0 ≤ q22.i 131 := by rw [g22.i 131 (by omega)]; exact P21
    rw [← g22.i 132 (by omega)] at h22
    have h22 : OutAt (q22.h _) (.pointer (slP (q22.i 132) 0)) (coreA (hrow ρ 0) h.t.length ++ h.t.flatten ++ numB (ρ.i 57).toNat ++ numB (ρ.i 58).toNat) false := h22
    have b22 : (numB (ρ.i 58).toNat).length ≤ 10 := lenB (z := (ρ.i 58).toNat) (by omega)
    have l22 := Nat.add_le_add l21 b22
    rw [← List.length_append] at l22
    rw [G22.i 59 (by omega)]
    refine numStep h22 r59 (by omega) fun q23 g23 h23 => ?_
    have G23 : Agree 131 ρ q23 := G22.trans (g23.mono (by omega))
    have P23 : 0 ≤ q23.i 131 := by rw [g23.i 131 (by omega)]; exact P22
    rw [← g23.i 132 (by omega)] at h23
    have h23 : OutAt (q23.h _) (.pointer (slP (q23.i 132) 0)) (coreA (hrow ρ 0) h.t.length ++ h.t.flatten ++ numB (ρ.i 57).toNat ++ numB (ρ.i 58).toNat ++ numB (ρ.i 59).toNat) false := h23
    have b23 : (numB (ρ.i 59).toNat).length ≤ 10 := lenB (z := (ρ.i 59).toNat) (by omega)
    have l23 := Nat.add_le_add l22 b23
    rw [← List.length_append] at l23
    rw [G23.i 60 (by omega)]
    refine numStep h23 r60 (by omega) fun q24 g24 h24 => ?_
    have G24 : Agree 131 ρ q24 := G23.trans (g24.mono (by omega))
    have P24 : 0 ≤ q24.i 131 := by rw [g24.i 131 (by omega)]; exact P23
    rw [← g24.i 132 (by omega)] at h24
    have h24 : OutAt (q24.h _) (.pointer (slP (q24.i 132) 0)) (coreA (hrow ρ 0) h.t.length ++ h.t.flatten ++ numB (ρ.i 57).toNat ++ numB (ρ.i 58).toNat ++ numB (ρ.i 59).toNat ++ numB (ρ.i 60).toNat) false := h24
    have b24 : (numB (ρ.i 60).toNat).length ≤ 10 := lenB (z := (ρ.i 60).toNat) (by omega)
    have l24 := Nat.add_le_add l23 b24
    rw [← List.length_append] at l24
    rw [G24.i 61 (by omega)]
    refine numStep h24 r61 (by omega) fun q25 g25 h25 => ?_
    have G25 : Agree 131 ρ q25 := G24.trans (g25.mono (by omega))
    have P25 : 0 ≤ q25.i 131 := by rw [g25.i 131 (by omega)]; exact P24
    rw [← g25.i 132 (by omega)] at h25
    have h25 : OutAt (q25.h _) (.pointer (slP (q25.i 132) 0)) (coreA (hrow ρ 0) h.t.length ++ h.t.flatten ++ numB (ρ.i 57).toNat ++ numB (ρ.i 58).toNat ++ numB (ρ.i 59).toNat ++ numB (ρ.i 60).toNat ++ numB (ρ.i 61).toNat) false := h25
    have b25 : (numB (ρ.i 61).toNat).length ≤ 10 := lenB (z := (ρ.i 61).toNat) (by omega)
    have l25 := Nat.add_le_add l24 b25
    rw [← List.length_append] at l25
    rw [G25.i 62 (by omega)]
    refine numStep h25 r62 (by omega) fun q26 g26 h26 => ?_
    have G26 : Agree 131 ρ q26 := G25.trans (g26.mono (by omega))
    have P26 : 0 ≤ q26.i 131 := by rw [g26.i 131 (by omega)]; exact P25
    rw [← g26.i 132 (by omega)] at h26
    have h26 : OutAt (q26.h _) (.pointer (slP (q26.i 132) 0)) (coreA (hrow ρ 0) h.t.length ++ h.t.flatten ++ numB (ρ.i 57).toNat ++ numB (ρ.i 58).toNat ++ numB (ρ.i 59).toNat ++ numB (ρ.i 60).toNat ++ numB (ρ.i 61).toNat ++ numB (ρ.i 62).toNat) false := h26
    have b26 : (numB (ρ.i 62).toNat).length ≤ 10 := lenB (z := (ρ.i 62).toNat) (by omega)
    have l26 := Nat.add_le_add l25 b26
    rw [← List.length_append] at l26
    have rd26 := rdB_row (n := 32) P26 (by rw [hrow_ag (G26.mono (by omega))]; exact hx.ok) k_sum
    rw [hrow_ag (G26.mono (by omega))] at rd26
    refine rawStep h26 rd26.w (by omega) (by rw [segI_len]; omega) fun q27 g27 h27 => ?_
    have G27 : Agree 131 ρ q27 := G26.trans (g27.mono (by omega))
    have P27 : 0 ≤ q27.i 131 := by rw [g27.i 131 (by omega)]; exact P26
    rw [← g27.i 132 (by omega)] at h27
    have h27 : OutAt (q27.h _) (.pointer (slP (q27.i 132) 0)) (coreA (hrow ρ 0) h.t.length ++ h.t.flatten ++ numB (ρ.i 57).toNat ++ numB (ρ.i 58).toNat ++ numB (ρ.i 59).toNat ++ numB (ρ.i 60).toNat ++ numB (ρ.i 61).toNat ++ numB (ρ.i 62).toNat ++ segI (hrow ρ 0) 60 32) false := h27
    have b27 : (segI (hrow ρ 0) 60 32).length ≤ 32 := Nat.le_of_eq (segI_len _ _ _)
    have l27 := Nat.add_le_add l26 b27
    rw [← List.length_append] at l27
    rw [G27.i 95 (by omega)]
    refine numStep h27 (u64_in _) (by omega) fun q28 g28 h28 => ?_
    have G28 : Agree 131 ρ q28 := G27.trans (g28.mono (by omega))
    have P28 : 0 ≤ q28.i 131 := by rw [g28.i 131 (by omega)]; exact P27
    rw [← g28.i 132 (by omega)] at h28
    have h28 : OutAt (q28.h _) (.pointer (slP (q28.i 132) 0)) (coreA (hrow ρ 0) h.t.length ++ h.t.flatten ++ numB (ρ.i 57).toNat ++ numB (ρ.i 58).toNat ++ numB (ρ.i 59).toNat ++ numB (ρ.i 60).toNat ++ numB (ρ.i 61).toNat ++ numB (ρ.i 62).toNat ++ segI (hrow ρ 0) 60 32 ++ numB (u64N (ρ.i 95))) false := h28
    have b28 : (numB (u64N (ρ.i 95))).length ≤ 10 := lenB (u64N_lt _)
    have l28 := Nat.add_le_add l27 b28
    rw [← List.length_append] at l28
    refine ⟨⟨_, _, _, false, rfl, rfl, h28, by omega⟩, fun q g ⟨F, hp, hF, hn⟩ => ?_⟩
    have hO := end_post h28 hp
    have eR : endR (coreZ (hrow ρ 0) (coreA (hrow ρ 0) h.t.length ++ h.t.flatten)) false = (coreZ (hrow ρ 0) (coreA (hrow ρ 0) h.t.length ++ h.t.flatten), 0) := by
      unfold endR
      have l28 : (coreZ (hrow ρ 0) (coreA (hrow ρ 0) h.t.length ++ h.t.flatten)).length ≤ 1000 := Nat.le_trans l28 (by omega)
      rw [if_neg (by rintro (e | e); exact absurd e (by decide); omega)]
    have hO : OwB F _ _ (endR (coreZ (hrow ρ 0) (coreA (hrow ρ 0) h.t.length ++ h.t.flatten)) false).1 := hO
    rw [eR, ← core_row hx] at hO
    have hF : q.h 226 = F := hF (by simp [cpRoots, Cp.roots, Ck.root])
    refine fun _ => ⟨[], [3], rfl, rfl, ⟨⟨fun k => q.i (226 + k), fun _ => false, fun _ => .empty, fun _ => .tuple #[], fun _ => Hl.none⟩, rfl, hn.1, trivial⟩, _, R, h, rfl, rfl, hx, ?_⟩
    show OwB (hls [q.h 226]) _ _ _
    rw [hls_one, hF]; exact hO
end Go.Proofs.Ytkdllpialpfopaa
