/- Layer 22: the reference's ReplyBytes, as a contract. Condition: a formed reply. -/
import Derived.ProofKit
import Derived.OpenShut
import Derived.Deep.Slices
import Derived.ChangeSame
import Derived.Test.YtomdimlnggpgbaaDoorCards
import Derived.Test.YtomdimlnggpgbaaDoorRe
set_option linter.unusedSimpArgs false
set_option linter.unusedVariables false
set_option linter.constructorNameAsVariable false
namespace Go.Proofs.YtomdimlnggpgbaaDoor
open Go Go.Sx Go.Pk
noncomputable def rrpBytS : Sx.Spec where
  fn := 25
  own := []
  rd := [1000009, 4000009]
  res := [.one .sl]
  pre := fun xs Hs Rs => ∃ row R RA r, xs = [.agg row.toArray] ∧ Rs = [R, RA] ∧ IsRp R RA row r ∧ r.Form
  post := fun xs Hs Rs v Hs' F => ∀ row R RA r, xs = [.agg row.toArray] → Rs = [R, RA] → IsRp R RA row r → OwB F 5 v (rpPad (rpB r))
noncomputable def rryΓ : List Sx.Spec := [rnumS, rnumsS, rpcS]
theorem rryΓ_ok : ∀ t ∈ rryΓ, t.OK Tryd.prog := fun t ht => by
  simp only [rryΓ, List.mem_cons, List.mem_nil_iff, or_false] at ht
  rcases ht with rfl | rfl | rfl
  · exact rnumS_ok
  · exact rnumsS_ok
  · exact rpcS_ok
def rrpBytNd : Nd := .ext (.alloc 22) (.and (.and (.and (.pre (.call 0 23 [.sv (.one (.int .u64 (.var 0)))] [] [])) (.ext (.call 0 23 [.sv (.one (.int .u64 (.var 0)))] [] []) (.ext (.alloc 27) (.and (.pre (.app 28 5 1 1 (.sl (.var 23) (.var 24) (.var 25) (.var 26)) (.var 25) (.hp 23 [] [.var 23] []) (.cvs [.int .u8 (.wrap .u8 (.var 1)), .int .u8 (.wrap .u8 (.var 2))] 2))) (.ext (.app 28 5 1 1 (.sl (.var 23) (.var 24) (.var 25) (.var 26)) (.var 25) (.hp 23 [] [.var 23] []) (.cvs [.int .u8 (.wrap .u8 (.var 1)), .int .u8 (.wrap .u8 (.var 2))] 2)) (.inv 3 [⟨40, 0, .int .i64 (.var 28)⟩, ⟨41, 0, .int .i64 (.add (.var 25) (.lit 2))⟩, ⟨42, 0, .int .i64 (.var 29)⟩] [(43, some 28)])))))) (.ext (.alloc 23) (.and (.pre (.call 0 24 [.sv (.one (.int .u64 (.var 0)))] [] [])) (.ext (.call 0 24 [.sv (.one (.int .u64 (.var 0)))] [] []) (.and (.pre (.app 28 5 1 1 (.sl (.var 24) (.var 25) (.var 26) (.var 27)) (.var 26) (.hp 24 [] [.var 24] []) (.cvs [.int .u8 (.wrap .u8 (.var 1)), .int .u8 (.wrap .u8 (.var 2))] 2))) (.ext (.app 28 5 1 1 (.sl (.var 24) (.var 25) (.var 26) (.var 27)) (.var 26) (.hp 24 [] [.var 24] []) (.cvs [.int .u8 (.wrap .u8 (.var 1)), .int .u8 (.wrap .u8 (.var 2))] 2)) (.inv 3 [⟨40, 0, .int .i64 (.var 28)⟩, ⟨41, 0, .int .i64 (.add (.var 26) (.lit 2))⟩, ⟨42, 0, .int .i64 (.var 29)⟩] [(43, some 28)]))))))) (.havoc 0 3 23 (.and (.pre (.call 1 44 [.sv (.agg (ckCVs 3 (List.replicate 6 (Ck.int .u64))))] [] [])) (.ext (.call 1 44 [.sv (.agg (ckCVs 3 (List.replicate 6 (Ck.int .u64))))] [] []) (.and (.pre (.app 48 5 1 1 (.sl (.var 40) (.lit 0) (.var 41) (.var 42)) (.var 41) (.hp 43 [] [.var 40] []) (.seg 44 (.var 44) (.var 45) (.var 46)))) (.ext (.app 48 5 1 1 (.sl (.var 40) (.lit 0) (.var 41) (.var 42)) (.var 41) (.hp 43 [] [.var 40] []) (.seg 44 (.var 44) (.var 45) (.var 46))) (.and (.e (.le (.lit 0) (.var 11))) (.ext (.alloc 50) (.and (.pre (.app 51 5 1 1 (.sl (.var 48) (.lit 0) (.add (.var 41) (.var 46)) (.var 49)) (.add (.var 41) (.var 46)) (.hp 48 [43] [.var 48, .var 40] []) (.cvs [.int .u8 (.wrap .u8 (.var 11))] 1))) (.ext (.app 51 5 1 1 (.sl (.var 48) (.lit 0) (.add (.var 41) (.var 46)) (.var 49)) (.add (.var 41) (.var 46)) (.hp 48 [43] [.var 48, .var 40] []) (.cvs [.int .u8 (.wrap .u8 (.var 11))] 1)) (.and (.inv 0 [⟨61, 0, .int .i64 (.var 51)⟩, ⟨62, 0, .int .i64 (.add (.add (.var 41) (.var 46)) (.lit 1))⟩, ⟨63, 0, .int .i64 (.var 52)⟩, ⟨60, 0, .int .i64 (.lit 0)⟩] [(64, some 51)]) (.havoc 0 0 53 (.and (.imp (.lt (.var 60) (.var 11)) (.and (.e (.le (.lit 0) (.var 9))) (.and (.e (.le (.lit 0) (.var 10))) (.and (.e (.le (.lit 0) (.var 60))) (.and (.e (.hks 20 (.var 9) (.add (.var 10) (.mul (.var 60) (.lit 126))) pkd)) (.and (.pre (.call 2 70 [.sv (.agg (pcR 60))] [] [.ro 21 [] true, .ro 21 [] true])) (.ext (.call 2 70 [.sv (.agg (pcR 60))] [] [.ro 21 [] true, .ro 21 [] true]) (.and (.pre (.app 74 5 1 1 (.sl (.var 61) (.lit 0) (.var 62) (.var 63)) (.var 62) (.hp 64 [] [.var 61] []) (.seg 70 (.var 70) (.var 71) (.var 72)))) (.ext (.app 74 5 1 1 (.sl (.var 61) (.lit 0) (.var 62) (.var 63)) (.var 62) (.hp 64 [] [.var 61] []) (.seg 70 (.var 70) (.var 71) (.var 72))) (.back 0 0 [⟨61, 0, .int .i64 (.var 74)⟩, ⟨62, 0, .int .i64 (.add (.var 62) (.var 72))⟩, ⟨63, 0, .int .i64 (.var 75)⟩, ⟨60, 0, .int .i64 (.wrap .i64 (.add (.var 60) (.lit 1)))⟩] [(64, some 74)])))))))))) (.imp (.not (.lt (.var 60) (.var 11))) (.ext (.alloc 70) (.and (.pre (.app 71 5 1 1 (.sl (.var 61) (.lit 0) (.var 62) (.var 63)) (.var 62) (.hp 64 [] [.var 61] []) (.cvs [.int .u8 (.lit 1)] 1))) (.ext (.app 71 5 1 1 (.sl (.var 61) (.lit 0) (.var 62) (.var 63)) (.var 62) (.hp 64 [] [.var 61] []) (.cvs [.int .u8 (.lit 1)] 1)) (.and (.inv 1 [⟨150, 0, .int .i64 (.lit 1)⟩] []) (.havoc 0 1 73 (.and (.e (.le (.lit 0) (.add (.var 62) (.lit 1)))) (.and (.imp (.lt (.var 150) (.add (.var 62) (.lit 1))) (.back 0 1 [⟨150, 0, .int .i64 (.wrap .i64 (.add (.var 150) (.var 150)))⟩] [])) (.imp (.not (.lt (.var 150) (.add (.var 62) (.lit 1)))) (.and (.inv 2 [⟨251, 0, .int .i64 (.var 71)⟩, ⟨252, 0, .int .i64 (.add (.var 62) (.lit 1))⟩, ⟨253, 0, .int .i64 (.var 72)⟩] [(254, some 71)]) (.havoc 0 2 160 (.and (.e (.le (.lit 0) (.var 252))) (.and (.imp (.lt (.var 252) (.var 150)) (.ext (.alloc 260) (.and (.pre (.app 261 5 1 1 (.sl (.var 251) (.lit 0) (.var 252) (.var 253)) (.var 252) (.hp 254 [] [.var 251] []) (.cvs [.int .u8 (.lit 0)] 1))) (.ext (.app 261 5 1 1 (.sl (.var 251) (.lit 0) (.var 252) (.var 253)) (.var 252) (.hp 254 [] [.var 251] []) (.cvs [.int .u8 (.lit 0)] 1)) (.back 0 2 [⟨251, 0, .int .i64 (.var 261)⟩, ⟨252, 0, .int .i64 (.add (.var 252) (.lit 1))⟩, ⟨253, 0, .int .i64 (.var 262)⟩] [(254, some 261)]))))) (.imp (.not (.lt (.var 252) (.var 150))) (.post [.ro 20 [.var 9] false, .ro 21 [] true, .dead, .dead, .hp 254 [] [.var 251] [], .hp 44 [] [.var 44] [], .dead, .dead] (.sv (.one (.sl (.var 251) (.lit 0) (.var 252) (.var 253))))))))))))))))))))))))))))))))
noncomputable def rrpBytW : Walk Tryd.prog rryΓ 25 where
  Λ := fun p => if cutAt p [25, 1, 0] then some ⟨3, [(3, .sv (.one (.sl (.var 40) (.lit 0) (.var 41) (.var 42))))], [(4, .hp 43 [] [.var 40] [])], 44⟩ else if lpF 25 p then (if p.length == 8 then some ⟨0, [(4, TI .i64 (.var 60)), (3, .sv (.one (.sl (.var 61) (.lit 0) (.var 62) (.var 63))))], [(4, .hp 64 [] [.var 61] [])], 70⟩ else if p.length == 10 then some ⟨1, [(5, TI .i64 (.var 150))], [], 160⟩ else some ⟨2, [(3, .sv (.one (.sl (.var 251) (.lit 0) (.var 252) (.var 253))))], [(4, .hp 254 [] [.var 251] [])], 260⟩) else none
  args := rpArgs
  mem := rpMem
  nv := 22
  nd := rrpBytNd
  ok := by kernel_rfl
theorem rrg0 : rryΓ[0]? = some rnumS := rfl
theorem rrg1 : rryΓ[1]? = some rnumsS := rfl
theorem rrg2 : rryΓ[2]? = some rpcS := rfl
theorem two_next {t L : Int} (h : isTwo t) (hl : t < L) (hL : L ≤ 16001) : isTwo (t + t) ∧ t + t < 2 * L ∧ IntKind.i64.wrap (t + t) = t + t := by
  unfold isTwo at h ⊢
  exact ⟨by omega, by omega, wrap_i64 (by omega) (by omega)⟩
set_option maxRecDepth 10000 in
theorem rrpBytS_ok : rrpBytS.OK Tryd.prog := by
  refine Spec.of_fn (Γ := rryΓ) rryΓ_ok ?_
  rintro xs Hs Rs hl1 hl2 ⟨row, R, RA, r, rfl, rfl, hx, hf⟩
  have e0 : Hs = [] := List.length_eq_zero_iff.1 hl1
  subst e0
  obtain ⟨ρ, rfl, hnm, hh⟩ := row_env [(20, R), (21, RA)] hx.ok
  have hx : IsRp R RA (rrow ρ) r := hx
  have hw20 : ρ.h 20 = R := hh 20
  have hw21 : ρ.h 21 = RA := hh 21
  obtain ⟨n10, n11, n12⟩ := rp_norm hnm
  have hps := hx.ps
  rw [rrow_p] at hps
  obtain ⟨hlen, hat⟩ := hps.at n10
  have hlen : ρ.i 11 = r.p.length := by omega
  obtain ⟨c0, c1, c2, c3, c4, c5, c6, c7, c8⟩ := hx.n
  obtain ⟨⟨f1, f2⟩, ⟨f3, f4⟩, _, hp8, hgood, hsum⟩ := id hf
  rw [c1] at f1 f2
  rw [c2] at f3 f4
  have u0 : 0 ≤ ρ.i 0 ∧ ρ.i 0 < 18446744073709551616 := rp_rng hx 0 (by omega)
  obtain ⟨k1, k2⟩ := one_num (z := ρ.i 1) (by omega) (by omega)
  obtain ⟨k3, k4⟩ := one_num (z := ρ.i 2) (by omega) (by omega)
  obtain ⟨k5, k6⟩ := one_num (z := (r.p.length : Int)) (by omega) (by omega)
  have uv := rp_u64s hx
  have eA : rpA r = numB (ρ.i 0).toNat ++ [ρ.i 1, ρ.i 2] ++ vecB [ρ.i 3, ρ.i 4, ρ.i 5, ρ.i 6, ρ.i 7, ρ.i 8] ++ [(r.p.length : Int)] := by
    unfold rpA
    rw [c0, c1, c2, show segI r.c 3 6 = [cI r.c 3, cI r.c 4, cI r.c 5, cI r.c 6, cI r.c 7, cI r.c 8] from rfl, c3, c4, c5, c6, c7, c8, k1, k3, numB_low (show r.p.length < 128 by omega)]
    simp
  have hL : (rpB r).length ≤ 16000 := by
    have a1 : (rpA r).length ≤ 100 := by
      have b1 := lenB (z := (ρ.i 0).toNat) (by omega)
      have b2 := vec_len (vs := [ρ.i 3, ρ.i 4, ρ.i 5, ρ.i 6, ρ.i 7, ρ.i 8]) rfl uv
      rw [eA]
      simp only [List.length_append, List.length_cons, List.length_nil]; omega
    have a2 := psB_n (ps := r.p) fun c hc => by
      obtain ⟨j, hj⟩ := List.mem_iff_getElem?.1 hc
      obtain ⟨rw', hA'⟩ := hat j _ hj
      exact ⟨Nat.le_trans (good_len (hgood c hc)) (by omega), RA, RA, rw', hA'.pc⟩
    unfold rpB
    rw [List.length_append]; omega
  obtain ⟨L, hLe⟩ : ∃ L, L = (rpB r).length := ⟨_, rfl⟩
  refine ⟨rrpBytW, ρ, fun j q => if j = 3 then BP (q.h 43) (q.i 40) 0 (q.i 41) (q.i 42) (numB (ρ.i 0).toNat ++ [ρ.i 1, ρ.i 2]) 12 else if j = 0 then ∃ k : Nat, q.i 60 = k ∧ k ≤ r.p.length ∧ BP (q.h 64) (q.i 61) 0 (q.i 62) (q.i 63) (rpA r ++ psB (r.p.take k)) (100 + 5048 * k) else if j = 1 then isTwo (q.i 150) ∧ (q.i 150 = 1 ∨ q.i 150 < 2 * ((L : Int) + 1)) else ∃ k : Nat, BP (q.h 254) (q.i 251) 0 (q.i 252) (q.i 253) (rpB r ++ [1] ++ List.replicate k 0) (20000 + k) ∧ q.i 150 = batch ((L : Int) + 1) ∧ (L : Int) + 1 + k ≤ q.i 150,
    fun j q => if j = 0 then (r.p.length - q.i 60).toNat else if j = 1 then (40000 - q.i 150).toNat else (q.i 150 - q.i 252).toNat, rfl, ent_ro rfl (by show [ρ.h 20, ρ.h 21] = _; rw [hh, hh]; rfl), (fun _ h => nomatch h), ?_⟩
  show Nd.holds _ _ _ rrpBytNd
  unfold rrpBytNd
  simp only [Nd.holds, X.pre, X.rel, X.n, Src.ok, Src.len, Src.vals, true_and, and_true, if_true, Nat.mul_one, Nat.add_zero, Nat.reduceAdd, List.length_cons, List.length_nil, bT_tt, bT_ff, bT_bvar, bT_not, bT_and, bT_or, bT_ite, bT_lt, bT_le, bT_eq, bT_beq, bT_seq, bT_hB, bT_his, bT_hby, bT_hism, bT_hks, iev_lit, iev_var, iev_add, iev_sub, iev_mul, iev_wrap, iev_ite, iev_hI, iev_hP, iev_hmlen, sev_ite, sev_slit, sev_sof, sev_svar, TV.ev, SV.ev, CV.ev, List.map_cons, List.map_nil, Res.hl, cpTV, Cp.sv, Ck.cv, cpSVs, Cp.len, Ck.len, newHs_zero, newHs_one, roots_ne, rrg0, rrg1, rrg2, rcr0, rbr3, rbr4, rcc0]
  intro q0 g0 _
  refine ⟨⟨?_, ?_⟩, fun q1 g1 hi => ?_⟩
  · simp only [g0.i, Nat.reduceLT]
    refine rnumB u0 fun q1 g1 P1 q2 g2 _ => ?_
    simp only [g2.i, g2.h, g1.i, g1.h, g0.i, Nat.reduceLT]
    refine cvsB (b2 := [ρ.i 1, ρ.i 2]) P1 (by rw [k2, k4]; rfl) rfl (ml := 2) rfl (by simp) fun q3 g3 P3 => ?_
    show BP (q3.h 28) (q3.i 28) 0 (q3.i 25 + 2) (q3.i 29) _ 12
    exact P3.to rfl rfl rfl (by simp only [g3.i, g2.i, Nat.reduceLT]) rfl rfl (by simp)
  · intro q1 g1 _
    simp only [g1.i, g0.i, Nat.reduceLT]
    refine rnumB u0 fun q2 g2 P2 => ?_
    simp only [g2.i, g2.h, g1.i, g1.h, g0.i, Nat.reduceLT]
    refine cvsB (b2 := [ρ.i 1, ρ.i 2]) P2 (by rw [k2, k4]; rfl) rfl (ml := 2) rfl (by simp) fun q3 g3 P3 => ?_
    show BP (q3.h 28) (q3.i 28) 0 (q3.i 26 + 2) (q3.i 29) _ 12
    exact P3.to rfl rfl rfl (by simp only [g3.i, Nat.reduceLT]) rfl rfl (by simp)
  have G1 : Agree 22 ρ q1 := g0.trans (g1.mono (by omega))
  have P1 : BP (q1.h 43) (q1.i 40) 0 (q1.i 41) (q1.i 42) (numB (ρ.i 0).toNat ++ [ρ.i 1, ρ.i 2]) 12 := hi
  rw [show (ckCVs 3 (List.replicate 6 (Ck.int .u64))).map (CV.ev q1) = us [ρ.i 3, ρ.i 4, ρ.i 5, ρ.i 6, ρ.i 7, ρ.i 8] from (ag_row G1 (Nat.le_of_ble_eq_true (by kernel_rfl))).trans rfl]
  refine rnumsB rfl uv fun q2 g2 P2 => ?_
  simp only [g2.i, g2.h, Nat.reduceLT]
  refine segB P1 P2.sp (by omega) fun q3 g3 P3 => ?_
  have G3 : Agree 22 ρ q3 := G1.trans (g2.trans (g3.mono (by omega)) |>.mono (by omega))
  rw [G3.i 11 (by omega), hlen]
  refine ⟨by omega, fun q4 g4 _ => ?_⟩
  have q48 : q4.i 48 = q3.i 48 ∧ q4.i 49 = q3.i 49 ∧ q4.i 41 = q1.i 41 ∧ q4.i 46 = q2.i 46 ∧ q4.h 48 = q3.h 48 := by
    rw [g4.i 48 (by omega), g4.i 49 (by omega), g4.i 41 (by omega), g4.i 46 (by omega), g4.h 48 (by omega), g3.i 41 (by omega), g3.i 46 (by omega), g2.i 41 (by omega)]
    exact ⟨rfl, rfl, rfl, rfl, rfl⟩
  obtain ⟨z1, z2, z3, z4, z5⟩ := q48
  rw [z1, z2, z3, z4, z5]
  refine cvsB (b2 := [(r.p.length : Int)]) P3 (by rw [g4.i 11 (by omega), G3.i 11 (by omega), hlen, k6]; rfl) rfl (ml := 1) rfl (by simp) fun q5 g5 P5 => ?_
  have G5 : Agree 22 ρ q5 := G3.trans (g4.trans (g5.mono (by omega)) |>.mono (by omega))
  have k41 : q5.i 41 = q1.i 41 ∧ q5.i 46 = q2.i 46 := by rw [g5.i 41 (by omega), g5.i 46 (by omega)]; exact ⟨z3, z4⟩
  refine ⟨show ∃ k : Nat, (0 : Int) = k ∧ k ≤ r.p.length ∧ BP (q5.h 51) (q5.i 51) 0 (q5.i 41 + q5.i 46 + 1) (q5.i 52) (rpA r ++ psB (r.p.take k)) (100 + 5048 * k) from ⟨0, rfl, Nat.zero_le _, P5.to rfl rfl rfl (by rw [k41.1, k41.2]) rfl (by rw [eA, List.take_zero, show psB [] = [] from rfl, List.append_nil]) (by simp)⟩, fun q6 g6 hi6 => ?_⟩
  obtain ⟨k, ek, hk, P6⟩ : ∃ k : Nat, q6.i 60 = k ∧ k ≤ r.p.length ∧ BP (q6.h 64) (q6.i 61) 0 (q6.i 62) (q6.i 63) (rpA r ++ psB (r.p.take k)) (100 + 5048 * k) := hi6
  have G6 : Agree 22 ρ q6 := G5.trans (g6.mono (by omega))
  rw [G6.i 9 (by omega), G6.i 10 (by omega), G6.i 11 (by omega), hlen, ek, G6.h 20 (by omega), hw20, G6.h 21 (by omega), hw21]
  refine ⟨fun hlt => ?_, fun hge q7 g7 _ => ?_⟩
  · have hkl : k < r.p.length := by omega
    have hpk : r.p[k]? = some r.p[k] := List.getElem?_eq_getElem hkl
    obtain ⟨row, hAt⟩ := hat k _ hpk
    obtain ⟨r1, r2, _⟩ := hAt.rows n10 (q := q6) (n := 60) (by rw [G6.h 20 (by omega), hw20]) (G6.i 9 (by omega)) (G6.i 10 (by omega)) ek
    rw [G6.h 20 (by omega), G6.i 9 (by omega), G6.i 10 (by omega), ek, hw20] at r1
    rw [r2]
    refine ⟨hAt.x0, n10, by omega, r1, ?_⟩
    refine rpcB hAt.pc (Nat.le_trans (good_len (hgood _ (List.getElem_mem hkl))) (by omega)) fun q8 g8 P8 => ?_
    simp only [g8.i, g8.h, Nat.reduceLT]
    refine segB P6 P8.sp (by omega) fun q9 g9 P9 => ?_
    have tk : r.p.take (k + 1) = r.p.take k ++ [r.p[k]] := by rw [List.take_add_one, hpk]; rfl
    have e60 : IntKind.i64.wrap (q9.i 60 + 1) = (k : Int) + 1 := by rw [g9.i 60 (by omega), g8.i 60 (by omega), ek]; exact wrap_i64 (by omega) (by omega)
    refine ⟨show ∃ k : Nat, IntKind.i64.wrap (q9.i 60 + 1) = k ∧ k ≤ r.p.length ∧ BP (q9.h 74) (q9.i 74) 0 (q9.i 62 + q9.i 72) (q9.i 75) (rpA r ++ psB (r.p.take k)) (100 + 5048 * k) from ⟨k + 1, e60, by omega, P9.to rfl rfl rfl (by rw [g9.i 62 (by omega), g9.i 72 (by omega), g8.i 62 (by omega)]) rfl (by rw [tk, psB_snoc, List.append_assoc]) (by omega)⟩, ?_⟩
    show ((r.p.length : Int) - IntKind.i64.wrap (q9.i 60 + 1)).toNat < ((r.p.length : Int) - k).toNat
    rw [e60]; omega
  · have hke : k = r.p.length := by omega
    subst hke
    rw [List.take_length] at P6
    have P6 : BP (q6.h 64) (q6.i 61) 0 (q6.i 62) (q6.i 63) (rpB r) 50000 := P6.to rfl rfl rfl rfl rfl rfl (by omega)
    simp only [g7.i, g7.h, Nat.reduceLT]
    refine cvsB (b2 := [1]) P6 rfl rfl (ml := 1) rfl (by simp) fun q8 g8 P8 => ?_
    have l62 : q6.i 62 = L := by rw [P6.l, hLe]
    have l62' : q8.i 62 = L := by rw [g8.i 62 (by omega), g7.i 62 (by omega), l62]
    refine ⟨show isTwo 1 ∧ ((1 : Int) = 1 ∨ (1 : Int) < 2 * ((L : Int) + 1)) from ⟨Or.inl rfl, Or.inl rfl⟩, fun q9 g9 hi9 => ?_⟩
    obtain ⟨t1, t2⟩ : isTwo (q9.i 150) ∧ (q9.i 150 = 1 ∨ q9.i 150 < 2 * ((L : Int) + 1)) := hi9
    have k9 : q9.i 62 = L := by rw [g9.i 62 (by omega), l62']
    rw [k9]
    refine ⟨by omega, fun hlt => ?_, fun hge2 => ?_⟩
    · obtain ⟨s1, s2, s3⟩ := two_next t1 hlt (by omega)
      refine ⟨show isTwo (IntKind.i64.wrap (q9.i 150 + q9.i 150)) ∧ (IntKind.i64.wrap (q9.i 150 + q9.i 150) = 1 ∨ IntKind.i64.wrap (q9.i 150 + q9.i 150) < 2 * ((L : Int) + 1)) from by rw [s3]; exact ⟨s1, Or.inr s2⟩, ?_⟩
      show (40000 - IntKind.i64.wrap (q9.i 150 + q9.i 150)).toNat < (40000 - q9.i 150).toNat
      rw [s3]
      unfold isTwo at t1
      omega
    · have hb := batch_of (n := (L : Int) + 1) t1 (by omega) (by omega)
      have k71 : q9.i 71 = q8.i 71 ∧ q9.i 72 = q8.i 72 ∧ q9.h 71 = q8.h 71 := by
        rw [g9.i 71 (by omega), g9.i 72 (by omega), g9.h 71 (by omega)]; exact ⟨rfl, rfl, rfl⟩
      refine ⟨show ∃ k : Nat, BP (q9.h 71) (q9.i 71) 0 (q9.i 62 + 1) (q9.i 72) (rpB r ++ [1] ++ List.replicate k 0) (20000 + k) ∧ q9.i 150 = batch ((L : Int) + 1) ∧ (L : Int) + 1 + k ≤ q9.i 150 from ⟨0, ?_, hb.symm, by omega⟩, fun q10 g10 hi10 => ?_⟩
      · have P8' : BP (q8.h 71) (q8.i 71) 0 (q6.i 62 + 1) (q8.i 72) (rpB r ++ [1]) (rpB r ++ [1]).length := ⟨P8.own, P8.l, P8.rx, P8.ry, P8.rc, Nat.le_refl _⟩
        exact P8'.to k71.2.2 k71.1 rfl (by rw [k9, l62]) k71.2.1 (by simp) (by rw [List.length_append, List.length_singleton]; omega)
      obtain ⟨k, P10, e150, hk10⟩ : ∃ k : Nat, BP (q10.h 254) (q10.i 251) 0 (q10.i 252) (q10.i 253) (rpB r ++ [1] ++ List.replicate k 0) (20000 + k) ∧ q10.i 150 = batch ((L : Int) + 1) ∧ (L : Int) + 1 + k ≤ q10.i 150 := hi10
      have b2 := batch_le ((L : Int) + 1)
      have l252 : q10.i 252 = (L : Int) + 1 + k := by rw [P10.l]; simp; omega
      refine ⟨by omega, fun hlt q11 g11 _ => ?_, fun hge3 => ?_⟩
      · simp only [g11.i, g11.h, Nat.reduceLT]
        refine cvsB (b2 := [0]) P10 rfl rfl (ml := 1) rfl (by simp; omega) fun q12 g12 P12 => ?_
        have k12 : q12.i 252 = q10.i 252 ∧ q12.i 150 = q10.i 150 := by rw [g12.i 252 (by omega), g12.i 150 (by omega), g11.i 252 (by omega), g11.i 150 (by omega)]; exact ⟨rfl, rfl⟩
        refine ⟨show ∃ k : Nat, BP (q12.h 261) (q12.i 261) 0 (q12.i 252 + 1) (q12.i 262) (rpB r ++ [1] ++ List.replicate k 0) (20000 + k) ∧ q12.i 150 = batch ((L : Int) + 1) ∧ (L : Int) + 1 + k ≤ q12.i 150 from ⟨k + 1, P12.to rfl rfl rfl (by rw [k12.1]) rfl (by rw [List.replicate_succ']; simp only [List.append_assoc]) (by simp; omega), by rw [k12.2, e150], by rw [k12.2]; omega⟩, ?_⟩
        show (q12.i 150 - (q12.i 252 + 1)).toNat < (q10.i 150 - q10.i 252).toNat
        rw [k12.1, k12.2]; omega
      · have hkk : k = (batch ((L : Int) + 1)).toNat - (L + 1) := by omega
        have ep : rpPad (rpB r) = rpB r ++ [1] ++ List.replicate k 0 := by unfold rpPad; rw [← hLe, hkk]
        refine ret_sl rfl (p := 4) rfl rfl ⟨P10.rx, Int.le_refl _, by show 0 ≤ q10.i 252; omega, P10.rc⟩ fun row' R' RA' r' e1 e2 hx' => ?_
        simp only [List.cons.injEq, Value.agg.injEq, and_true] at e1 e2
        obtain ⟨rfl, rfl⟩ := e2
        obtain rfl := List.toArray_inj e1
        obtain rfl := hx.uniq hx'
        rw [ep]; exact P10.own
end Go.Proofs.YtomdimlnggpgbaaDoor
namespace Go.Proofs.YtomdimlnggpgbaaDoor
open Go Go.Sx Go.Pk
structure Trim (bs : List Int) (k : Nat) : Prop where
  le : k ≤ bs.length
  zer : ∀ j z, k ≤ j → bs[j]? = some z → z = 0
  last : k = 0 ∨ ∃ z, bs[k - 1]? = some z ∧ z ≠ 0
theorem pad_at (X : List Int) : (rpPad X)[X.length]? = some 1 ∧ (∀ j z, X.length < j → (rpPad X)[j]? = some z → z = 0) := by
  unfold rpPad
  refine ⟨by rw [List.getElem?_append_left (by simp)]; simp, fun j z hj hz => ?_⟩
  rw [List.getElem?_append_right (by simp; omega), List.getElem?_replicate] at hz
  split at hz
  · exact (Option.some.inj hz).symm
  · cases hz
theorem pad_len (X : List Int) (h : X.length + 1 ≤ 65536) : ((rpPad X).length : Int) = batch ((X.length : Int) + 1) := by
  have := batch_ge (n := (X.length : Int) + 1) (by omega)
  unfold rpPad
  simp only [List.length_append, List.length_replicate, List.length_cons, List.length_nil]; omega
theorem Trim.pad {X : List Int} {k : Nat} (h : Trim (rpPad X) k) : k = X.length + 1 := by
  obtain ⟨h1, h2⟩ := pad_at X
  rcases Nat.lt_trichotomy k (X.length + 1) with hk | hk | hk
  · have := h.zer X.length 1 (by omega) h1; omega
  · exact hk
  · rcases h.last with h0 | ⟨z, hz, hne⟩
    · omega
    · exact absurd (h2 (k - 1) z (by omega) hz) hne
theorem Trim.un {bs : List Int} {k : Nat} (h : Trim bs k) (hk : 0 < k) (h1 : bs[k - 1]? = some 1) (hl : (bs.length : Int) = batch k) : rpPad (bs.take (k - 1)) = bs := by
  have hle := h.le
  have e1 : (bs.take (k - 1)).length = k - 1 := by rw [List.length_take]; omega
  have e2 : bs.drop k = List.replicate (bs.length - k) 0 := by
    apply List.ext_getElem?
    intro j
    rw [List.getElem?_drop, List.getElem?_replicate]
    split
    · rename_i hj
      have hb : bs[k + j]? = some bs[k + j] := List.getElem?_eq_getElem (by omega)
      rw [hb, h.zer (k + j) _ (by omega) hb]
    · exact List.getElem?_eq_none (by omega)
  have e3 : bs.drop (k - 1) = 1 :: bs.drop k := by
    have hlt : k - 1 < bs.length := by omega
    rw [List.drop_eq_getElem_cons hlt]
    have : bs[k - 1] = 1 := by rw [List.getElem?_eq_getElem hlt] at h1; exact Option.some.inj h1
    rw [this, show k - 1 + 1 = k by omega]
  unfold rpPad
  rw [e1, show (((k - 1 : Nat) : Int) + 1) = (k : Int) by omega, ← hl, show k - 1 + 1 = k by omega, Int.toNat_natCast, ← e2, List.append_assoc]
  show bs.take (k - 1) ++ (1 :: bs.drop k) = bs
  rw [← e3, List.take_append_drop]
def pPcs : Nat → PS → PS
  | 0, s => s
  | k + 1, s => pPcs k (pPc s)
theorem pPcs_back : ∀ (k : Nat) (s : PS), pPcs (k + 1) s = pPc (pPcs k s)
  | 0, _ => rfl
  | k + 1, s => by show pPcs (k + 1) (pPc s) = pPc (pPcs k (pPc s)); exact pPcs_back k _
def PcOf (s : PS) (c : Pc) : Prop := PdHd (vText 4096 s) c.h ∧ c.b = vText 4096 (pText 4096 s)
def PcsOf (s : PS) (ps : List Pc) : Prop := ∀ j c, ps[j]? = some c → PcOf (pPcs j s) c
theorem PcsOf.cons {s : PS} {c : Pc} {ps : List Pc} (h : PcsOf s (c :: ps)) : PcOf s c ∧ PcsOf (pPc s) ps := ⟨h 0 c rfl, fun j d hd => h (j + 1) d hd⟩
theorem PcsOf.snoc {s : PS} {c : Pc} {ps : List Pc} (h : PcsOf s ps) (hc : PcOf (pPcs ps.length s) c) : PcsOf s (ps ++ [c]) := by
  intro j d hd
  rcases Nat.lt_or_ge j ps.length with hj | hj
  · rw [List.getElem?_append_left hj] at hd; exact h j d hd
  · rw [List.getElem?_append_right hj] at hd
    have hj0 : j - ps.length = 0 := by
      rcases Nat.eq_zero_or_pos (j - ps.length) with h0 | h0
      · exact h0
      · rw [List.getElem?_eq_none (by simp; omega)] at hd; cases hd
    rw [hj0] at hd
    have hd : c = d := by simpa using hd
    subst hd
    rw [show j = ps.length by omega]; exact hc
theorem PdHd.form {t : List Int} {h : Hd} (hp : PdHd t h) (hf : h.Form) : hdB h = t := by
  rcases hp with ⟨_, e⟩ | ⟨e, _⟩
  · exact e
  · rw [e] at hf; exact absurd hf hz_not
theorem bytesOf_form {h : Hd} (hf : h.Form) : bytesOfH h = hdB h := by unfold bytesOfH; rw [if_pos hf]
theorem pcsA : ∀ (ps : List Pc) (s : PS), bytes256 s.l → (pPcs ps.length s).bad = false → (∀ c ∈ ps, c.h.Form) → PcsOf s ps → s.bad = false ∧ s.l = psB ps ++ (pPcs ps.length s).l
  | [], s, _, h, _, _ => ⟨h, rfl⟩
  | c :: ps, s, hb, h, hf, ho => by
    obtain ⟨ho1, ho2⟩ := ho.cons
    have b1 : bytes256 (pText 4096 s).l := (text256 hb).1
    obtain ⟨a1, a2⟩ := pcsA ps (pPc s) (text256 b1).1 h (fun d hd => hf d (List.mem_cons_of_mem _ hd)) ho2
    obtain ⟨a3, a4, _, _⟩ := textA b1 a1
    obtain ⟨a5, a6, _, _⟩ := textA hb a3
    refine ⟨a5, ?_⟩
    have hcf := hf c (List.mem_cons_self ..)
    have e : psB (c :: ps) = pcB c ++ psB ps := rfl
    have e1 : pcB c = textBytes (vText 4096 s) ++ textBytes (vText 4096 (pText 4096 s)) := by
      unfold pcB
      rw [bytesOf_form hcf, ho1.1.form hcf, ho1.2]
    rw [a6, a4, e, e1]
    show _ ++ (_ ++ (pPc s).l) = _
    rw [a2, List.append_assoc, List.append_assoc]; rfl
theorem pcsBk : ∀ (ps : List Pc), (∀ c ∈ ps, c.Good ∧ (hdB c.h).length ≤ 4096) → ∀ j, j ≤ ps.length → pPcs j ⟨psB ps, false⟩ = ⟨psB (ps.drop j), false⟩ ∧ ∀ c, ps[j]? = some c → vText 4096 (pPcs j ⟨psB ps, false⟩) = hdB c.h ∧ vText 4096 (pText 4096 (pPcs j ⟨psB ps, false⟩)) = c.b
  | [], _, j, hj => by
    obtain rfl : j = 0 := by simpa using hj
    exact ⟨rfl, fun c hc => by cases hc⟩
  | c :: ps, h, j, hj => by
    obtain ⟨hg, hl⟩ := h c (List.mem_cons_self ..)
    have hbl := good_len hg
    have e : psB (c :: ps) = textBytes (hdB c.h) ++ (textBytes c.b ++ psB ps) := by
      show pcB c ++ psB ps = _
      unfold pcB
      rw [bytesOf_form hg.1, List.append_assoc]
    obtain ⟨t1, t2⟩ := textBk (m := 4096) (b := hdB c.h) (t := textBytes c.b ++ psB ps) (by omega) hl
    obtain ⟨t3, t4⟩ := textBk (m := 4096) (b := c.b) (t := psB ps) (by omega) (by omega)
    have hs : pPc ⟨psB (c :: ps), false⟩ = ⟨psB ps, false⟩ := by rw [e]; show pText 4096 (pText 4096 _) = _; rw [t1, t3]
    match j with
    | 0 => exact ⟨rfl, fun d hd => by
        have hd : c = d := by simpa using hd
        subst hd
        show vText 4096 ⟨psB (c :: ps), false⟩ = _ ∧ vText 4096 (pText 4096 ⟨psB (c :: ps), false⟩) = _
        rw [e, t1]; exact ⟨t2, t4⟩⟩
    | j + 1 =>
      have := pcsBk ps (fun d hd => h d (List.mem_cons_of_mem _ hd)) j (by simpa using hj)
      show pPcs j (pPc _) = _ ∧ _
      rw [hs]
      exact ⟨this.1, fun d hd => by show vText 4096 (pPcs j (pPc _)) = _ ∧ vText 4096 (pText 4096 (pPcs j (pPc _))) = _; rw [hs]; exact this.2 d hd⟩
def rg1 (b : List Int) : PS := pNum 18446744073709551615 ⟨b, false⟩
def rg2 (b : List Int) : PS := pNum 3 (rg1 b)
def rg3 (b : List Int) : PS := pNum 14 (rg2 b)
def rg4 (b : List Int) : PS := (pNums 1048576 6 (rg3 b)).2
def rgH (b : List Int) : List Int := (pNums 1048576 6 (rg3 b)).1
def rg5 (b : List Int) : PS := pNum 8 (rg4 b)
def rgN (b : List Int) : Nat := (vNum 8 (rg4 b)).toNat
def gRow (b : List Int) (u : Value) : List Value := [.int .u64 (vNum 18446744073709551615 ⟨b, false⟩), .int .i64 (vNum 3 (rg1 b)), .int .i64 (vNum 14 (rg2 b))] ++ us (rgH b) ++ [u]
theorem gH_six (b : List Int) : ∃ a0 a1 a2 a3 a4 a5, rgH b = [a0, a1, a2, a3, a4, a5] := by
  have h : (rgH b).length = 6 := nums_len 6 _
  match rgH b, h with
  | [a0, a1, a2, a3, a4, a5], _ => exact ⟨a0, a1, a2, a3, a4, a5, rfl⟩
structure GR (b : List Int) (r : Rp) : Prop where
  c0 : cI r.c 0 = vNum 18446744073709551615 ⟨b, false⟩
  c1 : cI r.c 1 = vNum 3 (rg1 b)
  c2 : cI r.c 2 = vNum 14 (rg2 b)
  hs : segI r.c 3 6 = rgH b
  n : r.p.length = rgN b
theorem gRow_is {R RA : Hl} {b : List Int} {u : Value} {r : Rp} (hx : IsRp R RA (gRow b u) r) (hn : r.p.length = rgN b) : GR b r := by
  obtain ⟨a0, a1, a2, a3, a4, a5, e⟩ := gH_six b
  refine ⟨hx.I (by decide), hx.I (by decide), hx.I (by decide), ?_, hn⟩
  show [cI r.c 3, cI r.c 4, cI r.c 5, cI r.c 6, cI r.c 7, cI r.c 8] = _
  rw [hx.I (by decide), hx.I (by decide), hx.I (by decide), hx.I (by decide), hx.I (by decide), hx.I (by decide), e]
  unfold gRow
  rw [e]; rfl
theorem replyA {b : List Int} {r : Rp} (hb : bytes256 b) (hg : GR b r) (ho : PcsOf (rg5 b) r.p) (hf : ∀ c ∈ r.p, c.h.Form) (h1 : (pPcs (rgN b) (rg5 b)).bad = false) (h2 : (pPcs (rgN b) (rg5 b)).l = []) : rpB r = b := by
  have B1 : bytes256 (rg1 b).l := num256 hb
  have B2 : bytes256 (rg2 b).l := num256 B1
  have B3 : bytes256 (rg3 b).l := num256 B2
  have B4 : bytes256 (rg4 b).l := nums256 6 _ B3
  have B5 : bytes256 (rg5 b).l := num256 B4
  rw [← hg.n] at h1 h2
  obtain ⟨a1, a2⟩ := pcsA r.p (rg5 b) B5 h1 hf ho
  rw [h2, List.append_nil] at a2
  obtain ⟨a3, a4, n0, n1, _⟩ := numA B4 a1
  obtain ⟨a5, a6⟩ := numsA 6 (rg3 b) B3 a3
  obtain ⟨a7, a8, k0, k1, _⟩ := numA B2 a5
  obtain ⟨a9, a10, l0, l1, _⟩ := numA B1 a7
  obtain ⟨_, a12, m0, m1, m2⟩ := numA (s := ⟨b, false⟩) hb a9
  have a12 : b = numB (vNum 18446744073709551615 ⟨b, false⟩).toNat ++ (rg1 b).l := a12
  have a10 : (rg1 b).l = numB (vNum 3 (rg1 b)).toNat ++ (rg2 b).l := a10
  have a8 : (rg2 b).l = numB (vNum 14 (rg2 b)).toNat ++ (rg3 b).l := a8
  have a6 : (rg3 b).l = vecB (rgH b) ++ (rg4 b).l := a6
  have a4 : (rg4 b).l = numB (rgN b) ++ (rg5 b).l := a4
  unfold rpB rpA
  rw [hg.c0, hg.c1, hg.c2, hg.hs, hg.n, u64N_id l0 (by omega), u64N_id k0 (by omega)]
  conv => rhs; rw [a12, a10, a8, a6, a4, a2]
  simp only [List.append_assoc]
theorem PcsOf.same {s : PS} {ps ps' : List Pc} (hg : ∀ c ∈ ps, c.Good ∧ (hdB c.h).length ≤ 4096) (hs : s = ⟨psB ps, false⟩) (hx : ∀ c ∈ ps, ∃ R row, IsHd R row c.h) (hx' : ∀ c ∈ ps', ∃ R row, IsHd R row c.h) (ho : PcsOf s ps') (hl : ps'.length = ps.length) : ps' = ps := by
  subst hs
  apply List.ext_getElem hl
  intro j hj hj'
  have e1 : ps'[j]? = some ps'[j] := List.getElem?_eq_getElem hj
  have e2 : ps[j]? = some ps[j] := List.getElem?_eq_getElem hj'
  obtain ⟨o1, o2⟩ := ho j _ e1
  obtain ⟨v1, v2⟩ := (pcsBk ps hg j (by omega)).2 _ e2
  rw [v1] at o1
  rw [v2] at o2
  obtain ⟨R, row, hR⟩ := hx ps[j] (List.getElem_mem hj')
  obtain ⟨R', row', hR'⟩ := hx' ps'[j] (List.getElem_mem hj)
  have hF := (hg ps[j] (List.getElem_mem hj')).1.1
  have hh : ps'[j].h = ps[j].h := by
    rcases o1 with ⟨f1, f2⟩ | ⟨_, f2⟩
    · exact hd_inj hR' f1 hR hF f2
    · exact absurd rfl (f2 R row ps[j].h hR hF)
  cases hp : ps'[j] with
  | mk h b =>
    cases hq : ps[j] with
    | mk h' b' =>
      rw [hp, hq] at hh o2
      simp only at hh o2
      rw [hh, o2]
theorem replyB {R RA : Hl} {row : List Value} {r : Rp} (hx : IsRp R RA row r) (hf : r.Form) :
    vNum 18446744073709551615 ⟨rpB r, false⟩ = cI r.c 0 ∧ vNum 3 (rg1 (rpB r)) = cI r.c 1 ∧ vNum 14 (rg2 (rpB r)) = cI r.c 2 ∧ rgH (rpB r) = segI r.c 3 6 ∧ rgN (rpB r) = r.p.length ∧ rg5 (rpB r) = ⟨psB r.p, false⟩ ∧ (∀ c ∈ r.p, c.Good ∧ (hdB c.h).length ≤ 4096) ∧ (∀ c ∈ r.p, ∃ R row, IsHd R row c.h) := by
  obtain ⟨⟨f1, f2⟩, ⟨f3, f4⟩, hs, hp8, hgood, _⟩ := id hf
  obtain ⟨ρ, hρ, _, _⟩ := row_env (ks := rk2) [] hx.ok
  have hx' : IsRp R RA (rrow ρ) r := by rw [hρ] at hx; exact hx
  obtain ⟨c0, c1, c2, c3, c4, c5, c6, c7, c8⟩ := hx'.n
  have u0 : 0 ≤ ρ.i 0 ∧ ρ.i 0 < 18446744073709551616 := rp_rng hx' 0 (by omega)
  have uv := rp_u64s hx'
  obtain ⟨rows, hrd, hlen, hpc⟩ := hx.ps
  have hIs : ∀ c ∈ r.p, ∃ R row, IsPc R R row c := fun c hc => by
    obtain ⟨j, hj⟩ := List.mem_iff_getElem?.1 hc
    have hjl := (List.getElem?_eq_some_iff.1 hj).1
    exact ⟨RA, _, hpc j _ c (List.getElem?_eq_getElem (by omega)) hj⟩
  have eseg : segI r.c 3 6 = [ρ.i 3, ρ.i 4, ρ.i 5, ρ.i 6, ρ.i 7, ρ.i 8] := by
    show [cI r.c 3, cI r.c 4, cI r.c 5, cI r.c 6, cI r.c 7, cI r.c 8] = _
    rw [c3, c4, c5, c6, c7, c8]
  have e : rpB r = numB (cI r.c 0).toNat ++ (numB (cI r.c 1).toNat ++ (numB (cI r.c 2).toNat ++ (vecB (segI r.c 3 6) ++ (numB r.p.length ++ psB r.p)))) := by
    unfold rpB rpA
    rw [u64N_id (z := cI r.c 1) (by omega) (by omega), u64N_id (z := cI r.c 2) (by omega) (by omega)]
    simp only [List.append_assoc]
  have hv : ∀ v ∈ segI r.c 3 6, 0 ≤ v ∧ v ≤ 1048576 ∧ v < 18446744073709551616 := fun v hv => by
    have h1 := uv v (by rw [← eseg]; exact hv)
    refine ⟨h1.1, ?_, h1.2⟩
    unfold hdsSmall at hs
    have hv : v ∈ [cI r.c 3, cI r.c 4, cI r.c 5, cI r.c 6, cI r.c 7, cI r.c 8] := hv
    simp only [List.mem_cons, List.mem_nil_iff, or_false] at hv
    omega
  obtain ⟨s1, t1⟩ := numS' (s := ⟨rpB r, false⟩) (m := 18446744073709551615) (z := (cI r.c 0).toNat) (by rw [e]) (by omega) (by omega)
  have s1 : rg1 (rpB r) = _ := s1
  obtain ⟨s2, t2⟩ := numS' (m := 3) s1 (by omega) (by omega)
  have s2 : rg2 (rpB r) = _ := s2
  obtain ⟨s3, t3⟩ := numS' (m := 14) s2 (by omega) (by omega)
  have s3 : rg3 (rpB r) = _ := s3
  have s4 := numsBk (m := 1048576) (segI r.c 3 6) (numB r.p.length ++ psB r.p) hv
  rw [← s3, show (segI r.c 3 6).length = 6 from rfl] at s4
  have s5 : rg4 (rpB r) = ⟨numB r.p.length ++ psB r.p, false⟩ := by unfold rg4; rw [s4]
  obtain ⟨s6, t6⟩ := numS' (m := 8) s5 (by omega) (by omega)
  have hlenH : ∀ c ∈ r.p, (hdB c.h).length ≤ 4096 := fun c hc => by
    obtain ⟨R', row', hI⟩ := hIs c hc
    have := bytesOf_len hI.hd
    rw [bytesOf_form (hgood c hc).1] at this; omega
  refine ⟨by rw [t1]; omega, by rw [t2]; omega, by rw [t3]; omega, by unfold rgH; rw [s4], by unfold rgN; rw [t6]; omega, s6, fun c hc => ⟨hgood c hc, hlenH c hc⟩, fun c hc => by obtain ⟨R', row', hI⟩ := hIs c hc; exact ⟨R', _, hI.hd⟩⟩
theorem rpB_le {R RA : Hl} {row : List Value} {r : Rp} (hx : IsRp R RA row r) (hf : r.Form) : (rpB r).length ≤ 16000 := by
  obtain ⟨⟨f1, f2⟩, ⟨f3, f4⟩, hs, hp8, hgood, hsum⟩ := id hf
  obtain ⟨ρ, hρ, _, _⟩ := row_env (ks := rk2) [] hx.ok
  have hx' : IsRp R RA (rrow ρ) r := by rw [hρ] at hx; exact hx
  obtain ⟨c0, c1, c2, c3, c4, c5, c6, c7, c8⟩ := hx'.n
  have u0 : 0 ≤ ρ.i 0 ∧ ρ.i 0 < 18446744073709551616 := rp_rng hx' 0 (by omega)
  have uv := rp_u64s hx'
  obtain ⟨rows, hrd, hlen, hpc⟩ := hx.ps
  have a2 := psB_n (ps := r.p) fun c hc => by
    obtain ⟨j, hj⟩ := List.mem_iff_getElem?.1 hc
    have hjl := (List.getElem?_eq_some_iff.1 hj).1
    exact ⟨Nat.le_trans (good_len (hgood c hc)) (by omega), RA, RA, _, hpc j _ c (List.getElem?_eq_getElem (by omega)) hj⟩
  have eseg : segI r.c 3 6 = [ρ.i 3, ρ.i 4, ρ.i 5, ρ.i 6, ρ.i 7, ρ.i 8] := by
    show [cI r.c 3, cI r.c 4, cI r.c 5, cI r.c 6, cI r.c 7, cI r.c 8] = _
    rw [c3, c4, c5, c6, c7, c8]
  have b2 := vec_len (vs := [ρ.i 3, ρ.i 4, ρ.i 5, ρ.i 6, ρ.i 7, ρ.i 8]) rfl uv
  rw [← eseg] at b2
  have b0 := lenB (z := (cI r.c 0).toNat) (by omega)
  have b1 := lenB (z := u64N (cI r.c 1)) (by rw [u64N_id (by omega) (by omega)]; omega)
  have b3 := lenB (z := u64N (cI r.c 2)) (by rw [u64N_id (by omega) (by omega)]; omega)
  have b4 := lenB (z := r.p.length) (by omega)
  unfold rpB rpA
  simp only [List.length_append]; omega
end Go.Proofs.YtomdimlnggpgbaaDoor
namespace Go.Sx
open Go
theorem OwnsH.own_mem {F : Hl} {e : TypeId} {k : Nat} {v : Value} {n : Nat} {us : List Value} (h : OwnsH F e k v n us) {b : Nat} (hb : v.ownBlock = some b) : F.mem b := by
  rcases h.2 with ⟨h, _⟩ | ⟨gg, cap, cur, h, hg, _⟩
  · rw [h] at hb; cases hb
  · rw [h] at hb
    have : gg = b := by simpa [Value.ownBlock] using hb
    subst this
    unfold Hl.mem; rw [hg]; rfl
theorem OwnsH.mono {F G : Hl} (hl : F.le G) {e : TypeId} {k : Nat} {v : Value} {m : Nat} {us : List Value} (h : OwnsH F e k v m us) : OwnsH G e k v m us := by
  refine ⟨h.1, h.2.imp id fun ⟨g, cap, cur, hv, hg, r⟩ => ⟨g, cap, cur, hv, hl _ _ hg, r⟩⟩
theorem OwnsH.inj {F : Hl} {e : TypeId} {k : Nat} {v : Value} {n m : Nat} {us ws : List Value} (h1 : OwnsH F e k v n us) (h2 : OwnsH F e k v m ws) : n = m ∧ us = ws := by
  obtain ⟨l1, h1⟩ := h1
  obtain ⟨l2, h2⟩ := h2
  rcases h1 with ⟨h1, hn⟩ | ⟨g, cap, cur, h1, hg, _, _, _, ht⟩ <;> rcases h2 with ⟨h2, hm⟩ | ⟨g', cap', cur', h2, hg', _, _, _, ht'⟩
  · subst hn; subst hm
    refine ⟨rfl, ?_⟩
    rw [Nat.zero_mul] at l1 l2
    rw [List.length_eq_zero_iff.1 l1, List.length_eq_zero_iff.1 l2]
  · rw [h1] at h2; cases h2
  · rw [h1] at h2; cases h2
  · rw [h1] at h2
    simp only [Value.slice.injEq, Option.some.injEq, Addr.mk.injEq, and_true] at h2
    obtain ⟨eg, en, _⟩ := h2
    subst eg; subst en
    rw [hg] at hg'
    simp only [Option.some.injEq, Obj.cells.injEq, and_true] at hg'
    rw [← ht, ← ht', hg']
    exact ⟨rfl, rfl⟩
theorem OwnsH.cellAt {F : Hl} {e : TypeId} {x l c : Int} {n : Nat} {us : List Value} (h : OwnsH F e 1 (.slice (slP x 0) l.toNat c.toNat) n us) (hx : -1 ≤ x) {i : Nat} (hi : i < n) : 0 ≤ x ∧ F.cell x.toNat i = us[i]? := by
  obtain ⟨hl, h⟩ := h
  rcases h with ⟨_, hn⟩ | ⟨g, cap, cur, hv, hg, hle, hm, hs, ht⟩
  · omega
  · simp only [Value.slice.injEq] at hv
    obtain ⟨hp, _, _⟩ := hv
    have h0 : 0 ≤ x := by
      rcases Int.lt_or_le x 0 with hlt | h0
      · rw [show x = -1 by omega, slP_nil] at hp; cases hp
      · exact h0
    rw [slP_pos h0] at hp
    simp only [Option.some.injEq, Addr.mk.injEq, and_true] at hp
    refine ⟨h0, ?_⟩
    rw [hp.1, ← ht]; unfold Hl.cell; rw [hg, List.getElem?_take_of_lt (by omega), Array.getElem?_toList]
end Go.Sx
namespace Go.Proofs.YtomdimlnggpgbaaDoor
open Go Go.Sx Go.Pk
theorem own_slP {a y : Int} {l c : Nat} (h : 0 ≤ a) : (Value.slice (slP a y) l c).ownBlock = some a.toNat := by
  rw [slP_pos h]; rfl
theorem app_new {H : Hl} {x x' : Int} {l c l' c' : Nat} (hx : -1 ≤ x') (h : some x'.toNat = (Value.slice (slP x 0) l c).ownBlock ∨ ¬ H.mem x'.toNat ∨ x' = -1) : ∀ b, H.mem b → some b ≠ (Value.slice (slP x 0) l c).ownBlock → some b ≠ (Value.slice (slP x' 0) l' c').ownBlock := by
  intro b hb hne he
  rcases Int.lt_or_le x' 0 with hn | hn
  · rw [show x' = -1 by omega, slP_nil] at he; cases he
  · rw [own_slP hn] at he
    have he : b = x'.toNat := by simpa using he
    rcases h with h | h | h
    · exact hne (by rw [he]; exact h)
    · rw [← he] at h; exact h hb
    · omega
def RowR (F : Hl) (o : Option Nat) (u : Value) (r : List Int) : Prop := ∃ (x y : Int) (c : Nat), u = .slice (slP x y) r.length c ∧ -1 ≤ x ∧ 0 ≤ y ∧ (r = [] ∨ (0 ≤ x ∧ some x.toNat ≠ o ∧ ∀ j z, r[j]? = some z → F.cell x.toNat (y.toNat + j) = some (.int .u8 z)))
theorem cell_mem {F : Hl} {b j : Nat} {v : Value} (h : F.cell b j = some v) : F.mem b := by
  unfold Hl.cell at h
  unfold Hl.mem
  cases hF : F b with
  | none => rw [hF] at h; cases h
  | some o => rfl
theorem cell_of {F G : Hl} {b j : Nat} {v : Value} (h : F.cell b j = some v) (e : G b = F b) : G.cell b j = some v := by
  unfold Hl.cell at h ⊢
  rw [e]; exact h
theorem RowR.keep {F G : Hl} {o o' : Option Nat} {u : Value} {r : List Int} (h : RowR F o u r) (hk : ∀ b, F.mem b → some b ≠ o → G b = F b) (hn : ∀ b, F.mem b → some b ≠ o → some b ≠ o') : RowR G o' u r := by
  obtain ⟨x, y, c, hu, hx, hy, h⟩ := h
  refine ⟨x, y, c, hu, hx, hy, ?_⟩
  cases r with
  | nil => exact Or.inl rfl
  | cons z r =>
    rcases h with h | ⟨h0, hne, hc⟩
    · cases h
    · have hm : F.mem x.toNat := cell_mem (hc 0 z rfl)
      exact Or.inr ⟨h0, hn _ hm hne, fun j w hj => cell_of (hc j w hj) (hk _ hm hne)⟩
theorem RowR.rd {F : Hl} {o : Option Nat} {u : Value} {r : List Int} (h : RowR F o u r) : RdW F u r := by
  obtain ⟨x, y, c, hu, _, hy, h⟩ := h
  exact ⟨x, y, c, hu, hy, h.imp id fun h => ⟨h.1, h.2.2⟩⟩
theorem RowR.of {F : Hl} {x y l c : Int} {r : List Int} (h : RdW F (.slice (slP x y) l.toNat c.toNat) r) (hx : -1 ≤ x) (hy : 0 ≤ y) : RowR F none (.slice (slP x y) l.toNat c.toNat) r := by
  obtain ⟨x', y', c', hu, hy', h⟩ := h
  simp only [Value.slice.injEq] at hu
  obtain ⟨h1, h2, h3⟩ := hu
  refine ⟨x, y, c.toNat, by rw [h2], hx, hy, h.imp id fun ⟨h0, h⟩ => ?_⟩
  obtain ⟨e1, e2⟩ := slP_inj hx hy (by omega) hy' h1
  subst e1
  have e2 := e2 h0
  subst e2
  exact ⟨h0, by simp, h⟩
def RowsR (F : Hl) (v : Value) (rows : List (List Int)) : Prop := ∃ us : List Value, OwnsH F 30 1 v rows.length us ∧
  ∀ (j : Nat) (u : Value) (r : List Int), us[j]? = some u → rows[j]? = some r → RowR F v.ownBlock u r
theorem RowsR.nil (F : Hl) : RowsR F (.slice none 0 0) [] := ⟨[], ⟨rfl, Or.inl ⟨rfl, rfl⟩⟩, (fun j u r h => by simp at h)⟩
theorem RowsR.len {F : Hl} {v : Value} {rows : List (List Int)} {us : List Value} (h : OwnsH F 30 1 v rows.length us) : us.length = rows.length := by
  have := h.1; omega
theorem RowsR.mono {F G : Hl} (hl : F.le G) {v : Value} {rows : List (List Int)} (h : RowsR F v rows) : RowsR G v rows := by
  obtain ⟨us, ho, hr⟩ := h
  refine ⟨us, OwnsH.mono hl ho, fun j u r hu hrr => (hr j u r hu hrr).keep (fun b hm _ => ?_) (fun _ _ h => h)⟩
  obtain ⟨o, ho⟩ := Option.isSome_iff_exists.1 hm
  rw [hl _ _ ho, ho]
theorem RowsR.snoc {F B G : Hl} {v v' u : Value} {rows : List (List Int)} {r : List Int} (h : RowsR F v rows) (hd : F.dis B) (hu : RowR B none u r)
    (happ : ∀ xs, OwnsH (F.un B) 30 1 v rows.length xs → OwnsH G 30 1 v' (rows.length + 1) (xs ++ [u]))
    (hk : ∀ b, (F.un B).mem b → some b ≠ v.ownBlock → G b = (F.un B) b) (hn : ∀ b, (F.un B).mem b → some b ≠ v.ownBlock → some b ≠ v'.ownBlock) : RowsR G v' (rows ++ [r]) := by
  obtain ⟨us, ho, hr⟩ := h
  have hul := RowsR.len ho
  have hold : ∀ (j : Nat) (w : Value) (s : List Int), us[j]? = some w → rows[j]? = some s → RowR (F.un B) v.ownBlock w s := fun j w s hj hs =>
    (hr j w s hj hs).keep (fun b hm _ => by obtain ⟨o, ho⟩ := Option.isSome_iff_exists.1 hm; rw [Hl.un_at_left ho, ho]) (fun b _ h => h)
  have hun : RowR (F.un B) v.ownBlock u r := hu.keep (fun b hm _ => by rw [Hl.un_at_right fun h2 => hd b ⟨h2, hm⟩]) fun b hm _ e => hd b ⟨ho.own_mem e.symm, hm⟩
  refine ⟨us ++ [u], ?_, fun j w s hj hs => ?_⟩
  · rw [List.length_append, List.length_singleton]
    exact happ us (ho.mono (Hl.un_left _ _))
  · rcases Nat.lt_or_ge j us.length with hl | hl
    · rw [List.getElem?_append_left hl] at hj
      rw [List.getElem?_append_left (by omega)] at hs
      exact (hold j w s hj hs).keep hk hn
    · rw [List.getElem?_append_right hl] at hj
      rw [List.getElem?_append_right (by omega)] at hs
      have hj := List.mem_of_getElem? hj
      have hs := List.mem_of_getElem? hs
      rw [List.mem_singleton] at hj hs
      subst hj; subst hs
      exact hun.keep hk hn
theorem RowsR.at {F : Hl} {x l c : Int} {rows : List (List Int)} (h : RowsR F (.slice (slP x 0) l.toNat c.toNat) rows) (hx : -1 ≤ x) (hl : 0 ≤ l) : l = rows.length ∧ ∀ (i : Nat) r, rows[i]? = some r → 0 ≤ x ∧ ∃ u, F.cell x.toNat i = some u ∧ RowR F (some x.toNat) u r := by
  obtain ⟨us, ho, hr⟩ := h
  have hul := RowsR.len ho
  refine ⟨?_, fun i r hi => ?_⟩
  · rcases ho.2 with ⟨h, hn⟩ | ⟨g, cap, cur, h, _⟩
    · simp only [Value.slice.injEq] at h; omega
    · simp only [Value.slice.injEq] at h; omega
  · have hi' := (List.getElem?_eq_some_iff.1 hi).1
    obtain ⟨h0, hc⟩ := ho.cellAt hx hi'
    have hu : us[i]? = some us[i] := List.getElem?_eq_getElem (by omega)
    have := hr i _ r hu hi
    rw [own_slP h0] at this
    exact ⟨h0, _, by rw [hc, hu], this⟩
theorem RowsR.uniq {F : Hl} {v : Value} {a b : List (List Int)} (h1 : RowsR F v a) (h2 : RowsR F v b) : a = b := by
  obtain ⟨us, ho, hr⟩ := h1
  obtain ⟨ws, ho', hr'⟩ := h2
  obtain ⟨el, e⟩ := ho.inj ho'
  subst e
  have hul := RowsR.len ho
  apply List.ext_getElem el
  intro j hj hj'
  have hu : us[j]? = some us[j] := List.getElem?_eq_getElem (by omega)
  exact (hr j _ _ hu (List.getElem?_eq_getElem hj)).rd.uniq (hr' j _ _ hu (List.getElem?_eq_getElem hj')).rd
end Go.Proofs.YtomdimlnggpgbaaDoor
namespace Go.Sx
open Go
def Hl.but (F : Hl) (o : Option Nat) : Hl := fun b => if some b = o then Option.none else F b
theorem Hl.but_le (F : Hl) (o : Option Nat) : (F.but o).le F := fun b x h => by
  unfold Hl.but at h
  split at h
  · cases h
  · exact h
theorem Hl.but_keep {F G : Hl} {o o' : Option Nat} (hk : ∀ b, F.mem b → some b ≠ o → G b = F b) (hn : ∀ b, F.mem b → some b ≠ o → some b ≠ o') : (F.but o).le (G.but o') := fun b x h => by
  unfold Hl.but at h ⊢
  split at h
  · cases h
  · rename_i hb
    have hm : F.mem b := by unfold Hl.mem; rw [h]; rfl
    rw [if_neg (hn b hm hb), hk b hm hb]; exact h
end Go.Sx
namespace Go.Proofs.YtomdimlnggpgbaaDoor
open Go Go.Sx Go.Pk
def OwP (F : Hl) (v : Value) (ps : List Pc) : Prop := ∃ rows, OwR F 102 pkd v rows ∧ rows.length = ps.length ∧ ∀ (j : Nat) row p, rows[j]? = some row → ps[j]? = some p → IsPc (F.but v.ownBlock) (F.but v.ownBlock) row p
theorem OwP.rd {F : Hl} {v : Value} {ps : List Pc} (h : OwP F v ps) : RowsP F F v ps := by
  obtain ⟨rows, h1, h2, h3⟩ := h
  exact ⟨rows, h1.rd, h2, fun j row p hr hp => (h3 j row p hr hp).mono (Hl.but_le _ _) (Hl.but_le _ _)⟩
theorem OwP.nil (F : Hl) : OwP F (.slice none 0 0) [] := ⟨[], OwR.nil _ _ _, rfl, fun j row p h => by simp at h⟩
theorem OwP.snoc {A B G : Hl} {x l c x1 c1 : Int} {ps : List Pc} {row : List Value} {p : Pc} (h : OwP A (.slice (slP x 0) l.toNat c.toNat) ps) (hl : l = ps.length) (hd : A.dis B) (hu : IsPc B B row p) (hx1 : -1 ≤ x1)
    (happ : ∀ xs, OwnsH (A.un B) 102 126 (.slice (slP x 0) l.toNat c.toNat) l.toNat xs → OwnsH G 102 126 (.slice (slP x1 0) (l.toNat + 1) c1.toNat) (l.toNat + 1) (xs ++ row))
    (hk : ∀ b, (A.un B).mem b → some b ≠ (Value.slice (slP x 0) l.toNat c.toNat).ownBlock → G b = (A.un B) b) (hnew : some x1.toNat = (Value.slice (slP x 0) l.toNat c.toNat).ownBlock ∨ ¬ (A.un B).mem x1.toNat ∨ x1 = -1) : OwP G (.slice (slP x1 0) (l + 1).toNat c1.toNat) (ps ++ [p]) := by
  obtain ⟨rows, ⟨ho1, ho2⟩, hlen, hp⟩ := h
  have ho : OwR (A.un B) 102 pkd (.slice (slP x 0) l.toNat c.toNat) rows := ⟨ho1, ho2.mono (Hl.un_left _ _)⟩
  have hkeep : ((A.un B).but (Value.slice (slP x 0) l.toNat c.toNat).ownBlock).le (G.but (Value.slice (slP x1 0) (l + 1).toNat c1.toNat).ownBlock) := Hl.but_keep hk (app_new hx1 hnew)
  have hB : B.le ((A.un B).but (Value.slice (slP x 0) l.toNat c.toNat).ownBlock) := fun b o hb => by
    have hm : B.mem b := by unfold Hl.mem; rw [hb]; rfl
    unfold Hl.but
    rw [if_neg fun e => hd b ⟨ho2.own_mem e.symm, hm⟩]
    exact Hl.un_right hd b o hb
  have hA : (A.but (Value.slice (slP x 0) l.toNat c.toNat).ownBlock).le ((A.un B).but (Value.slice (slP x 0) l.toNat c.toNat).ownBlock) := Hl.but_keep (fun b hm _ => by
    obtain ⟨o, ho⟩ := Option.isSome_iff_exists.1 hm
    rw [Hl.un_at_left ho, ho]) (fun _ _ h => h)
  refine ⟨rows ++ [row], OwR.app ho (by omega) hu.ok happ, by simp [hlen], fun j r q hr hq => ?_⟩
  rcases Nat.lt_or_ge j rows.length with hj | hj
  · rw [List.getElem?_append_left hj] at hr
    rw [List.getElem?_append_left (by omega)] at hq
    have := hp j r q hr hq
    exact (this.mono hA hA).mono hkeep hkeep
  · rw [List.getElem?_append_right hj] at hr
    rw [List.getElem?_append_right (by omega)] at hq
    have hr := List.mem_of_getElem? hr
    have hq := List.mem_of_getElem? hq
    rw [List.mem_singleton] at hr hq
    subst hr; subst hq
    exact (hu.mono hB hB).mono hkeep hkeep
theorem OwP.pre {A B : Hl} {x l c : Int} {ps : List Pc} (h : OwP A (.slice (slP x 0) l.toNat c.toNat) ps) (hl : l = ps.length) : ∃ xs, OwnsH (A.un B) 102 126 (.slice (slP x 0) l.toNat c.toNat) l.toNat xs := by
  obtain ⟨rows, ho, hlen, _⟩ := h
  exact ⟨_, (OwR.pre ho (by omega)).mono (Hl.un_left _ _)⟩
def gC : List CV := [.int .u64 (.var 83), .int .i64 (.wrap .i64 (.var 85)), .int .i64 (.wrap .i64 (.var 87))] ++ ckCVs 89 (List.replicate 6 (Ck.int .u64)) ++ [.sl (.var 153) (.lit 0) (.var 154) (.var 155)]
def gZ : List CV := [.int .u64 (.lit 0), .int .i64 (.lit 0), .int .i64 (.lit 0), .int .u64 (.lit 0), .int .u64 (.lit 0), .int .u64 (.lit 0), .int .u64 (.lit 0), .int .u64 (.lit 0), .int .u64 (.lit 0), .sl (.lit (-1)) (.lit 0) (.lit 0) (.lit 0)]
def rzrow : List Value := [.int .u64 0, .int .i64 0, .int .i64 0, .int .u64 0, .int .u64 0, .int .u64 0, .int .u64 0, .int .u64 0, .int .u64 0, .slice none 0 0]
def parsedR (b : List Int) (v : Value) (F : Hl) : Prop :=
  (∃ row r, v = .tuple #[.agg row.toArray, .int .i64 0] ∧ IsRp F F row r ∧ r.Form ∧ rpPad (rpB r) = b) ∨
  (v = .tuple #[.agg rzrow.toArray, .int .i64 2] ∧ ∀ R RA row r, IsRp R RA row r → r.Form → rpPad (rpB r) ≠ b)
noncomputable def rpParS : Sx.Spec where
  fn := 22
  own := []
  rd := [0]
  res := [.agg rk2, .one (.int .i64)]
  pre := fun xs Hs Rs => ∃ (x y : Int) (c : Nat) (bs : List Int) (R : Hl), xs = [.slice (slP x y) bs.length c] ∧ Rs = [R] ∧ RdW R (.slice (slP x y) bs.length c) bs ∧ 0 ≤ y ∧ bs.length ≤ c ∧ bytes256 bs ∧ bs.length ≤ 1000000
  post := fun xs Hs Rs v Hs' F => ∀ u bs R, xs = [u] → Rs = [R] → RdW R u bs → parsedR bs v F
noncomputable def rppΓ : List Sx.Spec := [readPS, numS, takeVecS, takePcS, overS, formR 28, batchS]
theorem rppΓ_ok : ∀ t ∈ rppΓ, t.OK Tryd.prog := fun t ht => by
  simp only [rppΓ, List.mem_cons, List.mem_nil_iff, or_false] at ht
  rcases ht with rfl | rfl | rfl | rfl | rfl | rfl | rfl
  · exact readPS_ok
  · exact numS_ok
  · exact takeVecS_ok
  · exact takePcS_ok
  · exact overS_ok
  · exact eFormR_ok
  · exact batchS_ok
def rpParNd : Nd := .ext (.alloc 5) (.and (.and (.e (.le (.lit 0) (.var 2))) (.and (.imp (.not (.eq (.var 2) (.lit 0))) (.and (.inv 0 [⟨50, 0, .int .i64 (.var 2)⟩] []) (.havoc 0 0 6 (.and (.e (.le (.lit 0) (.var 50))) (.and (.imp (.lt (.lit 0) (.var 50)) (.and (.e (.le (.lit 0) (.var 0))) (.and (.e (.le (.lit 0) (.var 1))) (.and (.e (.le (.lit 0) (.wrap .i64 (.sub (.var 50) (.lit 1))))) (.and (.e (.lt (.wrap .i64 (.sub (.var 50) (.lit 1))) (.var 50))) (.and (.e (.his 4 (.var 0) (.add (.var 1) (.wrap .i64 (.sub (.var 50) (.lit 1)))) 0 (.int .u8))) (.and (.imp (.eq (.hI 4 (.var 0) (.add (.var 1) (.wrap .i64 (.sub (.var 50) (.lit 1)))) 0) (.lit 0)) (.and (.e (.le (.wrap .i64 (.sub (.var 50) (.lit 1))) (.var 3))) (.back 0 0 [⟨50, 0, .int .i64 (.wrap .i64 (.sub (.var 50) (.lit 1)))⟩] []))) (.imp (.not (.eq (.hI 4 (.var 0) (.add (.var 1) (.wrap .i64 (.sub (.var 50) (.lit 1)))) 0) (.lit 0))) (.inv 1 [⟨70, 0, .int .i64 (.var 50)⟩] []))))))))) (.imp (.not (.lt (.lit 0) (.var 50))) (.inv 1 [⟨70, 0, .int .i64 (.var 50)⟩] []))))))) (.imp (.eq (.var 2) (.lit 0)) (.inv 1 [⟨70, 0, .int .i64 (.var 2)⟩] [])))) (.havoc 0 1 6 (.and (.e (.le (.lit 0) (.var 70))) (.and (.imp (.not (.lt (.wrap .i64 (.sub (.var 70) (.lit 1))) (.lit 0))) (.and (.e (.le (.lit 0) (.var 0))) (.and (.e (.le (.lit 0) (.var 1))) (.and (.e (.lt (.wrap .i64 (.sub (.var 70) (.lit 1))) (.var 70))) (.and (.e (.his 4 (.var 0) (.add (.var 1) (.wrap .i64 (.sub (.var 70) (.lit 1)))) 0 (.int .u8))) (.and (.imp (.eq (.hI 4 (.var 0) (.add (.var 1) (.wrap .i64 (.sub (.var 70) (.lit 1)))) 0) (.lit 1)) (.and (.e (.le (.lit 0) (.var 2))) (.and (.pre (.call 6 80 [.sv (.one (.int .i64 (.wrap .i64 (.add (.wrap .i64 (.sub (.var 70) (.lit 1))) (.lit 1)))))] [] [])) (.ext (.call 6 80 [.sv (.one (.int .i64 (.wrap .i64 (.add (.wrap .i64 (.sub (.var 70) (.lit 1))) (.lit 1)))))] [] []) (.and (.imp (.not (.eq (.var 2) (.var 80))) (.post [.ro 4 [.var 0] false, .dead] (.tup [.agg gZ, .one (.int .i64 (.lit 2))]))) (.imp (.eq (.var 2) (.var 80)) (.and (.e (.le (.wrap .i64 (.sub (.var 70) (.lit 1))) (.var 3))) (.and (.pre (.call 0 81 [.sv (.one (.sl (.var 0) (.var 1) (.wrap .i64 (.sub (.var 70) (.lit 1))) (.var 3)))] [] [.ro 4 [.var 0] false])) (.ext (.call 0 81 [.sv (.one (.sl (.var 0) (.var 1) (.wrap .i64 (.sub (.var 70) (.lit 1))) (.var 3)))] [] [.ro 4 [.var 0] false]) (.and (.pre (.call 1 83 [.sv (.one (.hptr (.var 81) (.var 82))), .sv (.one (.int .u64 (.lit 18446744073709551615)))] [.hp 81 [] [.var 81] []] [])) (.ext (.call 1 83 [.sv (.one (.hptr (.var 81) (.var 82))), .sv (.one (.int .u64 (.lit 18446744073709551615)))] [.hp 81 [] [.var 81] []] []) (.and (.pre (.call 1 85 [.sv (.one (.hptr (.var 81) (.var 82))), .sv (.one (.int .u64 (.lit 3)))] [.hp 83 [81] [.var 81] []] [])) (.ext (.call 1 85 [.sv (.one (.hptr (.var 81) (.var 82))), .sv (.one (.int .u64 (.lit 3)))] [.hp 83 [81] [.var 81] []] []) (.and (.pre (.call 1 87 [.sv (.one (.hptr (.var 81) (.var 82))), .sv (.one (.int .u64 (.lit 14)))] [.hp 85 [83, 81] [.var 81] []] [])) (.ext (.call 1 87 [.sv (.one (.hptr (.var 81) (.var 82))), .sv (.one (.int .u64 (.lit 14)))] [.hp 85 [83, 81] [.var 81] []] []) (.and (.pre (.call 2 89 [.sv (.one (.hptr (.var 81) (.var 82)))] [.hp 87 [85, 83, 81] [.var 81] []] [])) (.ext (.call 2 89 [.sv (.one (.hptr (.var 81) (.var 82)))] [.hp 87 [85, 83, 81] [.var 81] []] []) (.ext (.alloc 95) (.and (.pre (.call 1 96 [.sv (.one (.hptr (.var 81) (.var 82))), .sv (.one (.int .u64 (.lit 8)))] [.hp 89 [87, 85, 83, 81] [.var 81] []] [])) (.ext (.call 1 96 [.sv (.one (.hptr (.var 81) (.var 82))), .sv (.one (.int .u64 (.lit 8)))] [.hp 89 [87, 85, 83, 81] [.var 81] []] []) (.and (.inv 2 [⟨150, 0, .int .i64 (.lit 0)⟩, ⟨153, 0, .int .i64 (.lit (-1))⟩, ⟨154, 0, .int .i64 (.lit 0)⟩, ⟨155, 0, .int .i64 (.lit 0)⟩] [(151, some 96), (156, none)]) (.havoc 0 2 98 (.and (.imp (.lt (.var 150) (.var 96)) (.and (.pre (.call 3 160 [.sv (.one (.hptr (.var 81) (.var 82)))] [.hp 151 [] [.var 81] []] [])) (.ext (.call 3 160 [.sv (.one (.hptr (.var 81) (.var 82)))] [.hp 151 [] [.var 81] []] []) (.ext (.alloc 292) (.ext (.mrg 293 (.hp 156 [] [.var 153] []) (.hp 161 [] [.var 213, .var 288] [])) (.and (.pre (.app 294 102 126 256 (.sl (.var 153) (.lit 0) (.var 154) (.var 155)) (.var 154) (.hp 293 [156, 161] [.var 153, .var 213, .var 213, .var 288] []) (.cvs (ckCVs 160 pk2) 1))) (.ext (.app 294 102 126 256 (.sl (.var 153) (.lit 0) (.var 154) (.var 155)) (.var 154) (.hp 293 [156, 161] [.var 153, .var 213, .var 213, .var 288] []) (.cvs (ckCVs 160 pk2) 1)) (.back 0 2 [⟨150, 0, .int .i64 (.wrap .u64 (.add (.var 150) (.lit 1)))⟩, ⟨153, 0, .int .i64 (.var 294)⟩, ⟨154, 0, .int .i64 (.add (.var 154) (.lit 1))⟩, ⟨155, 0, .int .i64 (.var 295)⟩] [(151, some 160), (156, some 294)])))))))) (.imp (.not (.lt (.var 150) (.var 96))) (.and (.pre (.call 4 160 [.sv (.one (.hptr (.var 81) (.var 82)))] [] [.hp 151 [] [.var 81] []])) (.ext (.call 4 160 [.sv (.one (.hptr (.var 81) (.var 82)))] [] [.hp 151 [] [.var 81] []]) (.and (.imp (.bvar 160) (.and (.pre (.call 5 161 [.sv (.agg gC)] [] [.hp 156 [] [.var 153] [], .hp 156 [] [.var 153] []])) (.ext (.call 5 161 [.sv (.agg gC)] [] [.hp 156 [] [.var 153] [], .hp 156 [] [.var 153] []]) (.and (.imp (.not (.bvar 161)) (.post [.ro 4 [.var 0] false, .dead, .hp 151 [] [.var 81] [], .dead, .hp 156 [] [.var 153] []] (.tup [.agg gZ, .one (.int .i64 (.lit 2))]))) (.imp (.bvar 161) (.post [.ro 4 [.var 0] false, .dead, .hp 151 [] [.var 81] [], .dead, .hp 156 [] [.var 153] []] (.tup [.agg gC, .one (.int .i64 (.lit 0))]))))))) (.imp (.not (.bvar 160)) (.post [.ro 4 [.var 0] false, .dead, .hp 151 [] [.var 81] [], .dead, .hp 156 [] [.var 153] []] (.tup [.agg gZ, .one (.int .i64 (.lit 2))])))))))))))))))))))))))))))))) (.imp (.not (.eq (.hI 4 (.var 0) (.add (.var 1) (.wrap .i64 (.sub (.var 70) (.lit 1)))) 0) (.lit 1))) (.post [.ro 4 [.var 0] false, .dead] (.tup [.agg gZ, .one (.int .i64 (.lit 2))]))))))))) (.imp (.lt (.wrap .i64 (.sub (.var 70) (.lit 1))) (.lit 0)) (.post [.ro 4 [.var 0] false, .dead] (.tup [.agg gZ, .one (.int .i64 (.lit 2))])))))))
noncomputable def rpParW : Walk Tryd.prog rppΓ 22 where
  Λ := fun p => if lpF 83 p then some ⟨0, [(0, .sv (.one (.sl (.var 0) (.var 1) (.var 50) (.var 3))))], [], 60⟩ else if cutAt p [22, 1, 0] then some ⟨1, [(4, .sv (.one (.sl (.var 0) (.var 1) (.var 70) (.var 3))))], [], 80⟩ else if lpF 22 p then some ⟨2, [(48, TI .u64 (.var 150))], [(2, .hp 151 [] [.var 81] []), (3, .blk 95 gC 53), (4, .hp 156 [] [.var 153] [])], 160⟩ else none
  args := [.sv (.one (.sl (.var 0) (.var 1) (.var 2) (.var 3)))]
  mem := [.ro 4 [.var 0] false]
  nv := 5
  nd := rpParNd
  ok := by kernel_rfl
theorem pg_0 : rppΓ[0]? = some readPS := rfl
theorem pg_1 : rppΓ[1]? = some numS := rfl
theorem pg_2 : rppΓ[2]? = some takeVecS := rfl
theorem pg_3 : rppΓ[3]? = some takePcS := rfl
theorem pg_4 : rppΓ[4]? = some overS := rfl
theorem pg_5 : rppΓ[5]? = some (formR 28) := rfl
theorem pg_6 : rppΓ[6]? = some batchS := rfl
theorem ppr2 : takeVecS.res = [.agg (List.replicate 6 (.int .u64))] := rfl
theorem ppr3 : takePcS.res = [.agg pk2] := rfl
theorem ckLen_qpk : (Cp.agg pk2).len = 132 := by kernel_rfl
theorem ckLen_v6 : (Cp.agg (List.replicate 6 (.int .u64))).len = 6 := by kernel_rfl
theorem roots_pk : (cpRoots 0 [Cp.agg pk2] ≠ []) = True := by
  have e : cpRoots 0 [Cp.agg pk2] = [.var 53, .var 128] := by kernel_rfl
  rw [e]; simp
section
variable {q : Env} {n : Nat} {p : Value} {H : Hl} {s : PS} {K : Env → Prop} {A : Env → Hl → Prop}
theorem iOver (h : InP H p s) (k : ∀ q', Agree n q q' → ((q'.b n = true) = (s.bad = false ∧ s.l = [])) → K q') :
    overS.pre [p] [] [H] ∧ ∀ q', Agree n q q' → (∃ F, overS.post [p] [] [H] (.bool (bev q' (.bvar n))) [] F ∧ A q' F) → K q' := by
  refine ⟨⟨_, H, s.l, s.bad, rfl, rfl, h⟩, fun q' g ⟨F, ⟨p', R', bs', bad', e1, e2, hO', hv⟩, _⟩ => k q' g ?_⟩
  simp only [List.cons.injEq, and_true] at e1 e2
  subst e1 e2
  obtain ⟨e3, e4⟩ := h.uniq hO'
  subst e3 e4
  simp only [Value.bool.injEq, bev_bvar] at hv
  rw [hv]
  simp
theorem iVec (h : InP H p s) (k : ∀ q', Agree n q q' → InP (q'.h n) p (pNums 1048576 6 s).2 → (ckCVs n (List.replicate 6 (Ck.int .u64))).map (CV.ev q') = us (pNums 1048576 6 s).1 → K q') :
    takeVecS.pre [p] [H] [] ∧ ∀ q', Agree n q q' → (∃ F, takeVecS.post [p] [H] [] (.agg ((ckCVs n (List.replicate 6 (Ck.int .u64))).map (CV.ev q')).toArray) [q'.h n] F ∧ A q' F) → K q' := by
  refine ⟨⟨_, H, s, rfl, rfl, h⟩, fun q' g ⟨F, ⟨p', H1, s', H', e1, e2, hO, e3, hO', hv⟩, _⟩ => ?_⟩
  simp only [List.cons.injEq, and_true] at e1 e2 e3
  subst e1 e2
  obtain ⟨e4, e5⟩ := h.uniq hO
  have e6 : s = s' := by cases s; cases s'; simp only at e4 e5; rw [e4, e5]
  subst e6
  rw [← e3] at hO'
  exact k q' g hO' (List.toArray_inj (Value.agg.inj hv))
theorem iPc (h : InP H p s) (k : ∀ q' row c, Agree n q q' → InP (q'.h n) p (pPc s) → (ckCVs n pk2).map (CV.ev q') = row → IsPc (q'.h (n + 1)) (q'.h (n + 1)) row c → PcOf s c → K q') :
    takePcS.pre [p] [H] [] ∧ ∀ q', Agree n q q' → (∃ F, takePcS.post [p] [H] [] (.agg ((ckCVs n pk2).map (CV.ev q')).toArray) [q'.h n] F ∧ (True → q'.h (n + 1) = F) ∧ cpNorms n [.agg pk2] q') → K q' := by
  refine ⟨⟨_, H, s, rfl, rfl, h⟩, fun q' g ⟨F, ⟨p', H1, s', H', row, c, e1, e2, hO, e3, hO', hv, hx, hd, hb⟩, hF, _⟩ => ?_⟩
  simp only [List.cons.injEq, and_true] at e1 e2 e3
  subst e1 e2
  obtain ⟨e4, e5⟩ := h.uniq hO
  have e6 : s = s' := by cases s; cases s'; simp only at e4 e5; rw [e4, e5]
  subst e6
  rw [← e3] at hO'
  rw [← hF trivial] at hx
  exact k q' row c g hO' (List.toArray_inj (Value.agg.inj hv)) hx ⟨hd, hb⟩
end
theorem rdW_take {R : Hl} {x y : Int} {l c c' : Nat} {bs : List Int} (h : RdW R (.slice (slP x y) l c) bs) (hy : 0 ≤ y) {n : Nat} (hn : n ≤ bs.length) : RdW R (.slice (slP x y) n c') (bs.take n) := by
  obtain ⟨x1, y1, c1, he, hy1, hc⟩ := h
  simp only [Value.slice.injEq] at he
  rcases Nat.eq_zero_or_pos n with h0 | h0
  · subst h0
    exact ⟨x, y, c', by simp, hy, Or.inl (List.take_zero ..)⟩
  rcases hc with rfl | ⟨hx1, hc⟩
  · simp at hn; omega
  obtain ⟨e1, e2⟩ := slP_eq hx1 hy1 hy he.1
  subst e1 e2
  refine ⟨x, y, c', by rw [List.length_take, Nat.min_eq_left hn], hy, Or.inr ⟨hx1, fun j z hz => ?_⟩⟩
  rw [List.getElem?_take] at hz
  split at hz
  · exact hc j z hz
  · cases hz
theorem gRow_ok (b : List Int) (a : Option Addr) (l c : Nat) : rowOK (gRow b (.slice a l c)) rkd := by
  obtain ⟨a0, a1, a2, a3, a4, a5, e⟩ := gH_six b
  unfold gRow
  rw [e]
  exact ⟨rfl, rfl, rfl, rfl, rfl, rfl, rfl, rfl, rfl, rfl, trivial⟩
theorem gRow_rng (b : List Int) (a : Option Addr) (l c : Nat) : ∀ v ∈ gRow b (.slice a l c), rngV v := by
  have i0 := vNum_in (s := ⟨b, false⟩) (m := 18446744073709551615) (by omega)
  have i1 := vNum_in (s := rg1 b) (m := 3) (by omega)
  have i2 := vNum_in (s := rg2 b) (m := 14) (by omega)
  have ih : ∀ v ∈ rgH b, 0 ≤ v ∧ v ≤ 1048576 := nums_in (by omega) 6 _
  intro v hv
  unfold gRow at hv
  rcases List.mem_append.1 hv with hv | hv
  · rcases List.mem_append.1 hv with hv | hv
    · simp only [List.mem_cons, List.mem_nil_iff, or_false] at hv
      rcases hv with rfl | rfl | rfl
      · exact ⟨i0.1, by omega⟩
      · exact ⟨by omega, by omega⟩
      · exact ⟨by omega, by omega⟩
    · obtain ⟨z, hz, rfl⟩ := List.mem_map.1 hv
      have := ih z hz
      exact ⟨this.1, by omega⟩
  · rw [List.mem_singleton] at hv
    subst hv; trivial
theorem gRow_norm (b : List Int) {x : Int} (hx : -1 ≤ x) (l c : Int) : ∀ v ∈ gRow b (.slice (slP x 0) l.toNat c.toNat), normV v := by
  intro v hv
  unfold gRow at hv
  rcases List.mem_append.1 hv with hv | hv
  · rcases List.mem_append.1 hv with hv | hv
    · simp only [List.mem_cons, List.mem_nil_iff, or_false] at hv
      rcases hv with rfl | rfl | rfl <;> trivial
    · obtain ⟨z, hz, rfl⟩ := List.mem_map.1 hv
      trivial
  · rw [List.mem_singleton] at hv
    subst hv; exact normV_bp hx
set_option maxRecDepth 10000 in
theorem rpParS_ok : rpParS.OK Tryd.prog := by
  refine Spec.of_fn (Γ := rppΓ) rppΓ_ok ?_
  rintro xs Hs Rs hl1 hl2 ⟨x, y, c, bs, R, rfl, rfl, hRd, hy, hcap, hby, hlen⟩
  have e0 : Hs = [] := List.length_eq_zero_iff.1 hl1
  subst e0
  obtain ⟨Xs, hX⟩ : ∃ Xs : Nat → List Int, Xs = fun k => bs.take (k - 1) := ⟨_, rfl⟩
  refine ⟨rpParW, envI [x, y, bs.length, c] false [Hl.none, Hl.none, Hl.none, Hl.none, R], fun j q => if j = 0 then ∃ k : Nat, q.i 50 = k ∧ k ≤ bs.length ∧ (∀ j z, k ≤ j → bs[j]? = some z → z = 0) else if j = 1 then ∃ k : Nat, q.i 70 = k ∧ Trim bs k else ∃ (t k : Nat) (ps : List Pc), q.i 70 = t ∧ Trim bs t ∧ 0 < t ∧ bs[t - 1]? = some 1 ∧ (bs.length : Int) = batch t ∧ q.i 83 = vNum 18446744073709551615 ⟨Xs t, false⟩ ∧ q.i 85 = vNum 3 (rg1 (Xs t)) ∧ q.i 87 = vNum 14 (rg2 (Xs t)) ∧ (ckCVs 89 (List.replicate 6 (Ck.int .u64))).map (CV.ev q) = us (rgH (Xs t)) ∧ q.i 96 = rgN (Xs t) ∧ q.i 150 = k ∧ k ≤ rgN (Xs t) ∧ ps.length = k ∧ InP (q.h 151) (.pointer (slP (q.i 81) (q.i 82))) (pPcs k (rg5 (Xs t))) ∧ PcsOf (rg5 (Xs t)) ps ∧ -1 ≤ q.i 153 ∧ q.i 154 = k ∧ 0 ≤ q.i 155 ∧ OwP (q.h 156) (.slice (slP (q.i 153) 0) (q.i 154).toNat (q.i 155).toNat) ps,
    fun j q => if j = 0 then (q.i 50).toNat else (q.i 96 - q.i 150).toNat, ?_, ent_ro rfl rfl, (fun _ h => nomatch h), ?_⟩
  · show [Value.slice (slP x y) ((bs.length : Int)).toNat ((c : Int)).toNat] = _
    rw [Int.toNat_natCast, Int.toNat_natCast]
  show Nd.holds _ _ _ rpParNd
  generalize hρ : envI [x, y, bs.length, c] false [Hl.none, Hl.none, Hl.none, Hl.none, R] = ρ
  have v0 : ρ.i 0 = x := by rw [← hρ]; rfl
  have v1 : ρ.i 1 = y := by rw [← hρ]; rfl
  have v2 : ρ.i 2 = bs.length := by rw [← hρ]; rfl
  have v3 : ρ.i 3 = c := by rw [← hρ]; rfl
  have w4 : ρ.h 4 = R := by rw [← hρ]; rfl
  clear hρ
  have V : ∀ q : Env, Agree 5 ρ q → q.i 0 = x ∧ q.i 1 = y ∧ q.i 2 = bs.length ∧ q.i 3 = c ∧ q.h 4 = R := fun q hg => by
    rw [hg.i 0 (by omega), hg.i 1 (by omega), hg.i 2 (by omega), hg.i 3 (by omega), hg.h 4 (by omega)]
    exact ⟨v0, v1, v2, v3, w4⟩
  have cell : ∀ k : Nat, 0 < k → k ≤ bs.length → 0 ≤ x ∧ ∃ z, bs[k - 1]? = some z ∧ R.cell x.toNat (y + ((k : Int) - 1)).toNat = some (.int .u8 z) ∧ 0 ≤ z ∧ z < 256 := fun k hk hkl => by
    obtain ⟨x1, y1, c1, he, hy1, hc⟩ := id hRd
    simp only [Value.slice.injEq] at he
    rcases hc with rfl | ⟨hx1, hc⟩
    · simp at hkl; omega
    obtain ⟨e1, e2⟩ := slP_eq hx1 hy1 hy he.1
    subst e1 e2
    have hb : bs[k - 1]? = some bs[k - 1] := List.getElem?_eq_getElem (by omega)
    refine ⟨hx1, _, hb, ?_, hby _ (List.getElem_mem _)⟩
    rw [show (y + ((k : Int) - 1)).toNat = y.toNat + (k - 1) by omega]; exact hc _ _ hb
  have wr : ∀ k : Nat, k ≤ bs.length → IntKind.i64.wrap ((k : Int) - 1) = (k : Int) - 1 := fun k hk => wrap_i64 (by omega) (by omega)
  have bad : ∀ {q : Env} {mem : Mem}, (∀ R RA row r, IsRp R RA row r → r.Form → rpPad (rpB r) ≠ bs) → postOf rpParS [.slice (slP x y) bs.length c] [] [R] q mem (.tup [.agg gZ, .one (.int .i64 (.lit 2))]) := by
    intro q mem hno _
    refine ⟨[], [], rfl, rfl, ⟨⟨fun k => [0, 0, 0, 0, 0, 0, 0, 0, 0, -1, 0, 0, 0, 2].getD k 0, fun _ => false, fun _ => .empty, fun _ => .tuple #[], fun _ => Hl.none⟩, rfl, ?_⟩, fun u bs' R' e1 e2 hR' => ?_⟩
    · exact ⟨⟨trivial, trivial, trivial, trivial, trivial, trivial, trivial, trivial, trivial, ⟨Int.le_refl _, Int.le_refl _, Int.le_refl _, Int.le_refl _⟩, trivial⟩, trivial, trivial⟩
    · simp only [List.cons.injEq, and_true] at e1 e2
      subst e1 e2
      obtain rfl := hRd.uniq hR'
      exact Or.inr ⟨rfl, hno⟩
  have no_len : ∀ {R RA : Hl} {row : List Value} {r : Rp}, IsRp R RA row r → r.Form → rpPad (rpB r) = bs → ∀ k, Trim bs k → k = (rpB r).length + 1 ∧ bs[k - 1]? = some 1 ∧ (bs.length : Int) = batch k ∧ bs.take (k - 1) = rpB r := by
    intro R RA row r hx hf he k hk
    have hl := rpB_le hx hf
    subst he
    have e := hk.pad
    subst e
    refine ⟨rfl, (pad_at _).1, by rw [pad_len _ (by omega)]; rfl, ?_⟩
    unfold rpPad
    rw [List.append_assoc]
    exact List.take_left' rfl
  unfold rpParNd
  simp only [Nd.holds, X.pre, X.rel, X.n, Src.ok, Src.len, Src.vals, true_and, and_true, if_true, Nat.mul_one, Nat.add_zero, Nat.reduceAdd, List.length_cons, List.length_nil, bT_tt, bT_ff, bT_bvar, bT_not, bT_and, bT_or, bT_ite, bT_lt, bT_le, bT_eq, bT_beq, bT_seq, bT_hB, bT_his, bT_hby, bT_hism, bT_hks, iev_lit, iev_var, iev_add, iev_sub, iev_mul, iev_wrap, iev_ite, iev_hI, iev_hP, iev_hmlen, sev_ite, sev_slit, sev_sof, sev_svar, TV.ev, SV.ev, CV.ev, List.map_cons, List.map_nil, Res.hl, cpTV, Cp.sv, Ck.cv, cpSVs, Cp.len, Ck.len, newHs_zero, newHs_one, roots_ne, pg_0, pg_1, pg_2, pg_3, pg_4, pg_5, pg_6, pr0, pr1, pr4, ppr2, ppr3, ryr0, ryr5, pc0, roots_pk, ckLen_qpk, ckLen_v6, Nat.reduceAdd]
  intro q0 g0 _
  obtain ⟨a0, a1, a2, a3, a4⟩ := V q0 g0
  rw [a2]
  refine ⟨⟨by omega, fun hne => ⟨show ∃ k : Nat, q0.i 2 = k ∧ k ≤ bs.length ∧ (∀ j z, k ≤ j → bs[j]? = some z → z = 0) from ⟨bs.length, a2, Nat.le_refl _, fun j z hj hz => by rw [List.getElem?_eq_none hj] at hz; cases hz⟩, fun q1 g1 hi => ?_⟩, fun h0 => ?_⟩, fun q1 g1 hi => ?_⟩
  · obtain ⟨k, ek, hk, hz⟩ : ∃ k : Nat, q1.i 50 = k ∧ k ≤ bs.length ∧ (∀ j z, k ≤ j → bs[j]? = some z → z = 0) := hi
    obtain ⟨a0, a1, a2, a3, a4⟩ := V q1 (g0.trans (g1.mono (by omega)))
    rw [a0, a1, a3, a4, ek, wr k hk]
    refine ⟨by omega, fun hlt => ?_, fun hge => ?_⟩
    · obtain ⟨hx0, z, hz1, hc, _⟩ := cell k (by omega) hk
      rw [hc]
      refine ⟨hx0, hy, by omega, by omega, rfl, fun hzz => ⟨by omega, show ∃ k : Nat, IntKind.i64.wrap (q1.i 50 - 1) = k ∧ k ≤ bs.length ∧ (∀ j z, k ≤ j → bs[j]? = some z → z = 0) from ⟨k - 1, by rw [ek, wr k hk]; omega, by omega, fun j w hj hw => ?_⟩, ?_⟩, fun hnz => ?_⟩
      · rcases Nat.lt_or_ge (k - 1) j with hj2 | hj2
        · exact hz j w (by omega) hw
        · obtain rfl : j = k - 1 := by omega
          rw [hz1] at hw
          have hw : z = w := by simpa using hw
          subst hw
          exact hzz
      · show (IntKind.i64.wrap (q1.i 50 - 1)).toNat < ((k : Nat) : Int).toNat
        rw [ek, wr k hk]; omega
      · show ∃ k : Nat, q1.i 50 = k ∧ Trim bs k
        exact ⟨k, ek, hk, hz, Or.inr ⟨z, hz1, hnz⟩⟩
    · show ∃ k : Nat, q1.i 50 = k ∧ Trim bs k
      exact ⟨k, ek, hk, hz, Or.inl (by omega)⟩
  · show ∃ k : Nat, q0.i 2 = k ∧ Trim bs k
    exact ⟨0, by rw [a2]; exact h0, Nat.zero_le _, fun j z _ hz => by have := (List.getElem?_eq_some_iff.1 hz).1; omega, Or.inl rfl⟩
  obtain ⟨t, et, hT⟩ : ∃ k : Nat, q1.i 70 = k ∧ Trim bs k := hi
  have htl := hT.le
  obtain ⟨a0, a1, a2, a3, a4⟩ := V q1 (g0.trans (g1.mono (by omega)))
  rw [a0, a1, a4, et, wr t htl]
  refine ⟨by omega, fun hge => ?_, fun hlt => bad fun R' RA row r hx hf he => by have := (no_len hx hf he t hT).1; omega⟩
  have ht0 : 0 < t := by omega
  obtain ⟨hx0, z, hz1, hc, _⟩ := cell t ht0 htl
  rw [hc, a2]
  refine ⟨hx0, hy, by omega, rfl, fun hz => ?_, fun hz => bad fun R' RA row r hx hf he => hz (Option.some.inj (hz1.symm.trans (no_len hx hf he t hT).2.1))⟩
  have hz : z = 1 := hz
  subst hz
  rw [show (t : Int) - 1 + 1 = (t : Int) by omega, show IntKind.i64.wrap (t : Int) = t from wrap_i64 (by omega) (by omega)]
  refine ⟨by omega, batch_pre _, fun q2 g2 ⟨F2, hp2, _⟩ => ?_⟩
  have h80 := batch_res hp2
  obtain ⟨a0, a1, a2, a3, a4⟩ := V q2 (g0.trans (g1.mono (by omega) |>.trans (g2.mono (by omega))))
  have et2 : q2.i 70 = t := by rw [g2.i 70 (by omega), et]
  rw [a0, a1, a2, a3, a4, et2, h80, wr t htl]
  refine ⟨fun hne => bad fun R' RA row r hx hf he => hne (no_len hx hf he t hT).2.2.1, fun hbt => ⟨by omega, ?_⟩⟩
  have eX : Xs t = bs.take (t - 1) := by rw [hX]
  have lX : (Xs t).length = t - 1 := by rw [eX, List.length_take]; omega
  have bX : bytes256 (Xs t) := fun z hz => by rw [eX] at hz; exact hby z (List.mem_of_mem_take hz)
  have rX : RdW R (.slice (slP x y) ((t : Int) - 1).toNat ((c : Int)).toNat) (Xs t) := by
    rw [eX, show ((t : Int) - 1).toNat = t - 1 by omega]
    exact rdW_take hRd hy (by omega)
  refine ⟨⟨_, Xs t, R, rfl, rfl, rX, bX, by omega⟩, fun q3 g3 ⟨F3, hp3, hF3, hn3⟩ => ?_⟩
  have hIn : InP (q3.h 81) (.pointer (slP (q3.i 81) (q3.i 82))) ⟨Xs t, false⟩ := by
    obtain ⟨u', bs', R', e1, e2, hR', hI⟩ := hp3
    simp only [List.cons.injEq, and_true] at e1 e2
    subst e1 e2
    obtain rfl := rX.uniq hR'
    rw [← hF3 trivial] at hI
    exact hI
  have ep : ∀ q : Env, Agree 83 q3 q → Value.pointer (slP (q.i 81) (q.i 82)) = .pointer (slP (q3.i 81) (q3.i 82)) := fun q hg => by rw [hg.i 81 (by omega), hg.i 82 (by omega)]
  refine iNum hIn fun q4 g4 h4 e83 => ?_
  rw [ep q4 g4]
  refine iNum h4 fun q5 g5 h5 e85 => ?_
  have G5 : Agree 83 q3 q5 := g4.trans (g5.mono (by omega))
  rw [ep q5 G5]
  refine iNum h5 fun q6 g6 h6 e87 => ?_
  have G6 : Agree 83 q3 q6 := G5.trans (g6.mono (by omega))
  rw [ep q6 G6]
  refine iVec h6 fun q7 g7 h7 e89 q8 g8 _ => ?_
  have G8 : Agree 83 q3 q8 := G6.trans (g7.trans (g8.mono (by omega)) |>.mono (by omega))
  rw [ep q8 G8, g8.h 89 (by omega)]
  refine iNum h7 fun q9 g9 h9 e96a => ?_
  have G9 : Agree 83 q3 q9 := G8.trans (g9.mono (by omega))
  have N8 := vNum_in (s := rg4 (Xs t)) (m := 8) (by omega)
  have e96a : q9.i 96 = vNum 8 (rg4 (Xs t)) := e96a
  have eN : q9.i 96 = rgN (Xs t) := by unfold rgN; omega
  have hN8 : rgN (Xs t) ≤ 8 := by unfold rgN; omega
  have G79 : Agree 89 q6 q9 := g7.trans (g8.trans (g9.mono (by omega)) |>.mono (by omega))
  refine ⟨show ∃ (t k : Nat) (ps : List Pc), q9.i 70 = t ∧ Trim bs t ∧ 0 < t ∧ bs[t - 1]? = some 1 ∧ (bs.length : Int) = batch t ∧ q9.i 83 = vNum 18446744073709551615 ⟨Xs t, false⟩ ∧ q9.i 85 = vNum 3 (rg1 (Xs t)) ∧ q9.i 87 = vNum 14 (rg2 (Xs t)) ∧ (ckCVs 89 (List.replicate 6 (Ck.int .u64))).map (CV.ev q9) = us (rgH (Xs t)) ∧ q9.i 96 = rgN (Xs t) ∧ (0 : Int) = k ∧ k ≤ rgN (Xs t) ∧ ps.length = k ∧ InP (q9.h 96) (.pointer (slP (q9.i 81) (q9.i 82))) (pPcs k (rg5 (Xs t))) ∧ PcsOf (rg5 (Xs t)) ps ∧ (-1 : Int) ≤ -1 ∧ (0 : Int) = k ∧ (0 : Int) ≤ 0 ∧ OwP Hl.none (.slice (slP (-1) 0) (0 : Int).toNat (0 : Int).toNat) ps from
    ⟨t, 0, [], by rw [G9.i 70 (by omega), g3.i 70 (by omega), et2], hT, ht0, hz1, hbt, ?_, ?_, ?_, ?_, eN, rfl, Nat.zero_le _, rfl, by rw [ep q9 G9]; exact h9, fun j d hd => by simp at hd, Int.le_refl _, rfl, Int.le_refl _, OwP.nil _⟩, fun q10 g10 hi => ?_⟩
  · rw [G79.i 83 (by omega), g6.i 83 (by omega), g5.i 83 (by omega)]; exact e83
  · rw [G79.i 85 (by omega), g6.i 85 (by omega)]; exact e85
  · rw [G79.i 87 (by omega)]; exact e87
  · rw [show (ckCVs 89 (List.replicate 6 (Ck.int .u64))).map (CV.ev q9) = (ckCVs 89 (List.replicate 6 (Ck.int .u64))).map (CV.ev q7) from ag_row (g8.trans (g9.mono (by omega))) (Nat.le_of_ble_eq_true (by kernel_rfl))]; exact e89
  clear e83 e85 e87 e89 e96a eN h4 h5 h6 h7 h9
  obtain ⟨t', k, ps, et', hT', ht0', hz1', hbt', e83, e85, e87, e89, e96, e150, hk, hps, hP, hOf, x153, e154, x155, hO⟩ : ∃ (t k : Nat) (ps : List Pc), q10.i 70 = t ∧ Trim bs t ∧ 0 < t ∧ bs[t - 1]? = some 1 ∧ (bs.length : Int) = batch t ∧ q10.i 83 = vNum 18446744073709551615 ⟨Xs t, false⟩ ∧ q10.i 85 = vNum 3 (rg1 (Xs t)) ∧ q10.i 87 = vNum 14 (rg2 (Xs t)) ∧ (ckCVs 89 (List.replicate 6 (Ck.int .u64))).map (CV.ev q10) = us (rgH (Xs t)) ∧ q10.i 96 = rgN (Xs t) ∧ q10.i 150 = k ∧ k ≤ rgN (Xs t) ∧ ps.length = k ∧ InP (q10.h 151) (.pointer (slP (q10.i 81) (q10.i 82))) (pPcs k (rg5 (Xs t))) ∧ PcsOf (rg5 (Xs t)) ps ∧ -1 ≤ q10.i 153 ∧ q10.i 154 = k ∧ 0 ≤ q10.i 155 ∧ OwP (q10.h 156) (.slice (slP (q10.i 153) 0) (q10.i 154).toNat (q10.i 155).toNat) ps := hi
  have G10 : Agree 83 q3 q10 := G9.trans (g10.mono (by omega))
  obtain rfl : t' = t := by
    have : q10.i 70 = t := by rw [G10.i 70 (by omega), g3.i 70 (by omega), et2]
    omega
  rw [e150, e96]
  refine ⟨fun hlt => ?_, fun hge => ?_⟩
  · refine iPc hP fun q11 row p g11 h11 hrow hx hpo q12 g12 _ q13 g13 ⟨e13, hd13⟩ => ?_
    have G13 : Agree 160 q10 q13 := g11.trans (g12.trans (g13.mono (by omega)) |>.mono (by omega))
    have G12 : Agree 160 q10 q12 := g11.trans (g12.mono (by omega))
    have erow : (ckCVs 160 pk2).map (CV.ev q13) = row := by rw [← hrow]; exact ag_row (g12.trans (g13.mono (by omega))) (Nat.le_of_ble_eq_true (by kernel_rfl))
    rw [e13, G12.h 156 (by omega), g12.h 161 (by omega), G13.i 153 (by omega), G13.i 154 (by omega), G13.i 155 (by omega), erow]
    rw [G12.h 156 (by omega), g12.h 161 (by omega)] at hd13
    refine ⟨⟨OwP.pre hO (by omega), by omega, by unfold maxLen; omega, by omega⟩, fun q14 g14 ⟨b1, b2, happ, hkeep, _, hnew⟩ => ?_⟩
    have hO2 := OwP.snoc hO (by omega) hd13 hx b1 happ hkeep hnew
    have G14 : Agree 160 q10 q14 := G13.trans (g14.mono (by omega))
    have e150' : IntKind.u64.wrap (q14.i 150 + 1) = ((k + 1 : Nat) : Int) := by rw [G14.i 150 (by omega), e150, wu64 (by omega) (by omega)]; omega
    have e154' : q14.i 154 + 1 = ((k + 1 : Nat) : Int) := by rw [G14.i 154 (by omega), e154]; omega
    refine ⟨show ∃ (t k : Nat) (ps : List Pc), q14.i 70 = t ∧ Trim bs t ∧ 0 < t ∧ bs[t - 1]? = some 1 ∧ (bs.length : Int) = batch t ∧ q14.i 83 = vNum 18446744073709551615 ⟨Xs t, false⟩ ∧ q14.i 85 = vNum 3 (rg1 (Xs t)) ∧ q14.i 87 = vNum 14 (rg2 (Xs t)) ∧ (ckCVs 89 (List.replicate 6 (Ck.int .u64))).map (CV.ev q14) = us (rgH (Xs t)) ∧ q14.i 96 = rgN (Xs t) ∧ IntKind.u64.wrap (q14.i 150 + 1) = k ∧ k ≤ rgN (Xs t) ∧ ps.length = k ∧ InP (q14.h 160) (.pointer (slP (q14.i 81) (q14.i 82))) (pPcs k (rg5 (Xs t))) ∧ PcsOf (rg5 (Xs t)) ps ∧ -1 ≤ q14.i 294 ∧ q14.i 154 + 1 = k ∧ 0 ≤ q14.i 295 ∧ OwP (q14.h 294) (.slice (slP (q14.i 294) 0) (q14.i 154 + 1).toNat (q14.i 295).toNat) ps from
      ⟨t', k + 1, ps ++ [p], by rw [G14.i 70 (by omega), et'], hT, ht0, hz1, hbt, by rw [G14.i 83 (by omega), e83], by rw [G14.i 85 (by omega), e85], by rw [G14.i 87 (by omega), e87], ?_, by rw [G14.i 96 (by omega), e96], e150', by omega, by simp [hps], ?_, hOf.snoc (by rw [hps]; exact hpo), b1, e154', b2, ?_⟩, ?_⟩
    · rw [← e89]; exact ag_row G14 (Nat.le_of_ble_eq_true (by kernel_rfl))
    · rw [g14.h 160 (by omega), g13.h 160 (by omega), g12.h 160 (by omega), G14.i 81 (by omega), G14.i 82 (by omega), pPcs_back]; exact h11
    · rw [G14.i 154 (by omega)]; exact hO2
    · show (q14.i 96 - IntKind.u64.wrap (q14.i 150 + 1)).toNat < ((rgN (Xs t') : Int) - k).toNat
      rw [G14.i 96 (by omega), e96, e150']; omega
  have hkN : k = rgN (Xs t') := by omega
  rw [hkN] at hP hps
  refine iOver hP fun q11 g11 hov => ?_
  have iv1 := vNum_in (s := rg1 (Xs t')) (m := 3) (by omega)
  have iv2 := vNum_in (s := rg2 (Xs t')) (m := 14) (by omega)
  have hW : ∀ q : Env, Agree 160 q10 q → gC.map (CV.ev q) = gRow (Xs t') (.slice (slP (q10.i 153) 0) (q10.i 154).toNat (q10.i 155).toNat) := fun q hg => by
    have e1 : (ckCVs 89 (List.replicate 6 (Ck.int .u64))).map (CV.ev q) = us (rgH (Xs t')) := by rw [← e89]; exact ag_row hg (Nat.le_of_ble_eq_true (by kernel_rfl))
    unfold gC gRow
    rw [List.map_append, List.map_append, e1]
    show [Value.int .u64 (q.i 83), .int .i64 (IntKind.i64.wrap (q.i 85)), .int .i64 (IntKind.i64.wrap (q.i 87))] ++ _ ++ [Value.slice (slP (q.i 153) 0) (q.i 154).toNat (q.i 155).toNat] = _
    rw [hg.i 83 (by omega), hg.i 85 (by omega), hg.i 87 (by omega), hg.i 153 (by omega), hg.i 154 (by omega), hg.i 155 (by omega), e83, e85, e87, wrap_i64 (by omega) (by omega), wrap_i64 (by omega) (by omega)]
  obtain ⟨row, hrow⟩ : ∃ row, row = gRow (Xs t') (.slice (slP (q10.i 153) 0) (q10.i 154).toNat (q10.i 155).toNat) := ⟨_, rfl⟩
  have hI : ∀ F, F = q10.h 156 → IsRp F F row ⟨row.set 9 noV, ps⟩ := fun F hF => by
    subst hF
    refine ⟨by rw [hrow]; exact gRow_ok _ _ _ _, by rw [hrow]; exact gRow_rng _ _ _ _, rfl, ?_⟩
    have e9 : row.getD 9 noV = .slice (slP (q10.i 153) 0) (q10.i 154).toNat (q10.i 155).toNat := by
      rw [hrow]
      obtain ⟨a0, a1, a2, a3, a4, a5, e⟩ := gH_six (Xs t')
      unfold gRow; rw [e]; rfl
    rw [e9]; exact hO.rd
  have hG : ∀ F, F = q10.h 156 → GR (Xs t') ⟨row.set 9 noV, ps⟩ := fun F hF => gRow_is (u := .slice (slP (q10.i 153) 0) (q10.i 154).toNat (q10.i 155).toNat) (by rw [← hrow]; exact hI F hF) hps
  have hG := hG _ rfl
  have noForm : ∀ {R RA : Hl} {row' : List Value} {r : Rp}, IsRp R RA row' r → r.Form → rpPad (rpB r) = bs → (pPcs (rgN (Xs t')) (rg5 (Xs t'))).bad = false ∧ (pPcs (rgN (Xs t')) (rg5 (Xs t'))).l = [] ∧ Rp.Form ⟨row.set 9 noV, ps⟩ := by
    intro R RA row' r hx hf he
    obtain ⟨_, _, _, hTk⟩ := no_len hx hf he t' hT
    rw [← eX] at hTk
    obtain ⟨b0, b1, b2, b3, b4, b5, b6, b7⟩ := replyB hx hf
    rw [← hTk] at b0 b1 b2 b3 b4 b5
    have hall := pcsBk r.p b6 (rgN (Xs t')) (by omega)
    rw [← b5] at hall
    rw [hall.1, b4, List.drop_length]
    refine ⟨rfl, rfl, ?_⟩
    obtain ⟨rows, _, hrl, hrp⟩ := (hI _ rfl).ps
    have hsame := PcsOf.same b6 b5 b7 (fun c hc => by
      obtain ⟨j, hj⟩ := List.mem_iff_getElem?.1 hc
      have hjl := (List.getElem?_eq_some_iff.1 hj).1
      exact ⟨_, _, (hrp j _ c (List.getElem?_eq_getElem (by rw [hrl]; exact hjl)) hj).hd⟩) hOf (by rw [hps, b4])
    obtain ⟨f1, f2, f3, f4, f5, f6⟩ := hf
    refine ⟨by rw [hG.c1, b1]; exact f1, by rw [hG.c2, b2]; exact f2, ?_, by show ps.length ≤ 8; rw [hsame]; exact f4, by show ∀ c ∈ ps, _; rw [hsame]; exact f5, by show psN ps ≤ _; rw [hsame]; exact f6⟩
    have e3 : segI (row.set 9 noV) 3 6 = segI r.c 3 6 := by rw [← b3]; exact hG.hs
    have e3 : [cI (row.set 9 noV) 3, cI (row.set 9 noV) 4, cI (row.set 9 noV) 5, cI (row.set 9 noV) 6, cI (row.set 9 noV) 7, cI (row.set 9 noV) 8] = [cI r.c 3, cI r.c 4, cI r.c 5, cI r.c 6, cI r.c 7, cI r.c 8] := e3
    simp only [List.cons.injEq, and_true] at e3
    show hdsSmall (row.set 9 noV)
    unfold hdsSmall at f3 ⊢
    rw [e3.1, e3.2.1, e3.2.2.1, e3.2.2.2.1, e3.2.2.2.2.1, e3.2.2.2.2.2]; exact f3
  rw [hov]
  refine ⟨fun hok => ?_, fun hno => bad fun R' RA' row' r hx hf he => hno ⟨(noForm hx hf he).1, (noForm hx hf he).2.1⟩⟩
  rw [hW q11 g11, ← hrow, g11.h 156 (by omega)]
  refine ⟨⟨row, _, _, _, rfl, rfl, hI _ rfl⟩, fun q12 g12 ⟨F12, hp12, _⟩ => ?_⟩
  have hF := hp12 row _ _ _ rfl rfl (hI _ rfl)
  have hF : (q12.b 161 = true) = Rp.Form ⟨row.set 9 noV, ps⟩ := bvT (by rw [hF]; simp)
  rw [hF]
  refine ⟨fun hnf => bad fun R' RA' row' r hx hf he => hnf (noForm hx hf he).2.2, fun hf => ?_⟩
  intro _
  have G12 : Agree 160 q10 q12 := g11.trans (g12.mono (by omega))
  have hev : TV.ev q12 (.tup [.agg gC, .one (.int .i64 (.lit 0))]) = .tuple #[.agg row.toArray, .int .i64 0] := by
    show Value.tuple #[.agg (gC.map (CV.ev q12)).toArray, .int .i64 0] = _
    rw [hW q12 G12, ← hrow]
  have hsh := shape_row_int (k := .i64) 0 (show rowOK row (rk2.map kdOf) by rw [hrow]; exact gRow_ok _ _ _ _) (by kernel_rfl) (by rw [hrow]; exact gRow_norm _ x153 _ _)
  obtain ⟨ρ2, s1, s2⟩ := hsh
  refine ⟨[], [4], rfl, rfl, ⟨ρ2, by rw [hev]; exact s1.symm, s2⟩, fun u bs' R' e1 e2 hR' => ?_⟩
  simp only [List.cons.injEq, and_true] at e1 e2
  subst e1 e2
  obtain rfl := hRd.uniq hR'
  refine Or.inl ⟨row, ⟨row.set 9 noV, ps⟩, hev, ?_, hf, ?_⟩
  · show IsRp (hls [q12.h 156]) (hls [q12.h 156]) _ _
    rw [hls_one]
    exact hI _ (G12.h 156 (by omega))
  · have hA := replyA bX hG hOf (fun c hc => (hf.2.2.2.2.1 c hc).1) hok.1 hok.2
    rw [hA, eX]
    exact hT.un ht0 hz1 hbt
end Go.Proofs.YtomdimlnggpgbaaDoor
namespace Go.Proofs.YtomdimlnggpgbaaDoor
open Go Go.Sx Go.Pk
theorem rsl1 (n : Nat) : (cpRoots n [Cp.one .sl] ≠ []) = True := by simp [cpRoots, Cp.roots, Ck.root]
theorem rdW_parts {R : Hl} {u : Value} {r : List Int} (h : RdW R u r) : valIs (some u) .slice = true ∧ valP (some u) 2 = r.length ∧
    (valP (some u) 0 = -1 ∨ valP (some u) 2 = 0 ∨ 0 ≤ valP (some u) 0 ∧ 0 ≤ valP (some u) 1 ∧ cellBytes R (valP (some u) 0).toNat (valP (some u) 1).toNat (valP (some u) 2).toNat = true) ∧
    ∀ [Decidable (valP (some u) 0 = -1)], (if valP (some u) 0 = -1 then (⟨#[]⟩ : ByteArray) else bytesOf (cellInts R (valP (some u) 0).toNat (valP (some u) 1).toNat (valP (some u) 2).toNat)) = bytesOf r := by
  have h2 := rdW_len h
  obtain ⟨x, y, c, rfl, hy, h⟩ := h
  refine ⟨rfl, h2, ?_⟩
  rw [h2]
  rcases h with h | ⟨hx, hc⟩
  · subst h
    refine ⟨Or.inr (Or.inl rfl), ?_⟩
    intro _
    show (if _ then (⟨#[]⟩ : ByteArray) else bytesOf (cellInts R _ _ 0)) = ByteArray.empty
    split <;> rfl
  · rw [sl0 (by omega), sl1 hx hy, Int.toNat_natCast]
    refine ⟨Or.inr (Or.inr ⟨hx, hy, cells_bytes hc (Nat.le_refl _)⟩), ?_⟩
    intro _
    rw [if_neg (by omega), cells_ints hc]
theorem rdW_text {R : Hl} {x y l c : Int} {bs : List Int} [Decidable (x = -1)] (h : RdW R (.slice (slP x y) l.toNat c.toNat) bs) (hy : 0 ≤ y) (hl : 0 ≤ l) :
    (x = -1 ∨ l = 0 ∨ 0 ≤ x ∧ 0 ≤ y ∧ cellBytes R x.toNat y.toNat l.toNat = true) ∧ (if x = -1 then (⟨#[]⟩ : ByteArray) else bytesOf (cellInts R x.toNat y.toNat l.toNat)) = bytesOf bs := by
  obtain ⟨x', y', c', he, hy', h⟩ := h
  simp only [Value.slice.injEq] at he
  obtain ⟨hp, he, _⟩ := he
  rcases h with rfl | ⟨h0, h⟩
  · have e : l = 0 := by
      have := he
      simp at this
      omega
    subst e
    refine ⟨Or.inr (Or.inl rfl), ?_⟩
    split <;> rfl
  · obtain ⟨rfl, rfl⟩ := slP_eq h0 hy' hy hp
    refine ⟨Or.inr (Or.inr ⟨h0, hy, cells_bytes h (by omega)⟩), ?_⟩
    rw [if_neg (by omega), he, cells_ints h]
noncomputable def same20S : Sx.Spec where
  fn := 53
  own := []
  rd := [0, 1, 3000001]
  res := [.one .bool]
  pre := fun xs Hs Rs => ∃ a b R1 R2 R3 pa pb, xs = [a, b] ∧ Rs = [R1, R2, R3] ∧ RowsP R1 R1 a pa ∧ RowsP R2 R3 b pb ∧ pa.length ≤ 1000000000
  post := fun xs Hs Rs v Hs' F => ∀ a b R1 R2 R3 pa pb, xs = [a, b] → Rs = [R1, R2, R3] → RowsP R1 R1 a pa → RowsP R2 R3 b pb → ∃ z, v = .bool z ∧ (pa = pb → z = true)
def same20Nd : Nd := .and (.e (.le (.lit 0) (.var 2))) (.and (.e (.le (.lit 0) (.var 6))) (.and (.imp (.not (.eq (.var 2) (.var 6))) (.post [.ro 10 [] true, .ro 8 [.var 0] true, .ro 9 [.var 4] false] (.sv (.one (.bool .ff))))) (.imp (.eq (.var 2) (.var 6)) (.and (.inv 0 [⟨50, 0, .int .i64 (.lit 0)⟩] []) (.havoc 0 0 11 (.and (.imp (.lt (.var 50) (.var 2)) (.and (.e (.le (.lit 0) (.var 0))) (.and (.e (.le (.lit 0) (.var 1))) (.and (.e (.le (.lit 0) (.var 50))) (.and (.e (.his 8 (.var 0) (.add (.add (.var 1) (.mul (.var 50) (.lit 126))) (.lit 125)) 0 .slice)) (.and (.e (.or (.eq (.hP 8 (.var 0) (.add (.add (.var 1) (.mul (.var 50) (.lit 126))) (.lit 125)) 0 0) (.lit (-1))) (.or (.eq (.hP 8 (.var 0) (.add (.add (.var 1) (.mul (.var 50) (.lit 126))) (.lit 125)) 0 2) (.lit 0)) (.and (.le (.lit 0) (.hP 8 (.var 0) (.add (.add (.var 1) (.mul (.var 50) (.lit 126))) (.lit 125)) 0 0)) (.and (.le (.lit 0) (.hP 8 (.var 0) (.add (.add (.var 1) (.mul (.var 50) (.lit 126))) (.lit 125)) 0 1)) (.hby 8 (.hP 8 (.var 0) (.add (.add (.var 1) (.mul (.var 50) (.lit 126))) (.lit 125)) 0 0) (.hP 8 (.var 0) (.add (.add (.var 1) (.mul (.var 50) (.lit 126))) (.lit 125)) 0 1) (.hP 8 (.var 0) (.add (.add (.var 1) (.mul (.var 50) (.lit 126))) (.lit 125)) 0 2))))))) (.and (.e (.le (.lit 0) (.var 4))) (.and (.e (.le (.lit 0) (.var 5))) (.and (.e (.lt (.var 50) (.var 6))) (.and (.e (.his 9 (.var 4) (.add (.add (.var 5) (.mul (.var 50) (.lit 126))) (.lit 125)) 0 .slice)) (.and (.e (.or (.eq (.hP 9 (.var 4) (.add (.add (.var 5) (.mul (.var 50) (.lit 126))) (.lit 125)) 0 0) (.lit (-1))) (.or (.eq (.hP 9 (.var 4) (.add (.add (.var 5) (.mul (.var 50) (.lit 126))) (.lit 125)) 0 2) (.lit 0)) (.and (.le (.lit 0) (.hP 9 (.var 4) (.add (.add (.var 5) (.mul (.var 50) (.lit 126))) (.lit 125)) 0 0)) (.and (.le (.lit 0) (.hP 9 (.var 4) (.add (.add (.var 5) (.mul (.var 50) (.lit 126))) (.lit 125)) 0 1)) (.hby 10 (.hP 9 (.var 4) (.add (.add (.var 5) (.mul (.var 50) (.lit 126))) (.lit 125)) 0 0) (.hP 9 (.var 4) (.add (.add (.var 5) (.mul (.var 50) (.lit 126))) (.lit 125)) 0 1) (.hP 9 (.var 4) (.add (.add (.var 5) (.mul (.var 50) (.lit 126))) (.lit 125)) 0 2))))))) (.and (.imp (.not (.seq (.ite (.eq (.hP 8 (.var 0) (.add (.add (.var 1) (.mul (.var 50) (.lit 126))) (.lit 125)) 0 0) (.lit (-1))) (.slit ⟨#[]⟩) (.sof 8 (.hP 8 (.var 0) (.add (.add (.var 1) (.mul (.var 50) (.lit 126))) (.lit 125)) 0 0) (.hP 8 (.var 0) (.add (.add (.var 1) (.mul (.var 50) (.lit 126))) (.lit 125)) 0 1) (.hP 8 (.var 0) (.add (.add (.var 1) (.mul (.var 50) (.lit 126))) (.lit 125)) 0 2))) (.ite (.eq (.hP 9 (.var 4) (.add (.add (.var 5) (.mul (.var 50) (.lit 126))) (.lit 125)) 0 0) (.lit (-1))) (.slit ⟨#[]⟩) (.sof 10 (.hP 9 (.var 4) (.add (.add (.var 5) (.mul (.var 50) (.lit 126))) (.lit 125)) 0 0) (.hP 9 (.var 4) (.add (.add (.var 5) (.mul (.var 50) (.lit 126))) (.lit 125)) 0 1) (.hP 9 (.var 4) (.add (.add (.var 5) (.mul (.var 50) (.lit 126))) (.lit 125)) 0 2))))) (.post [.ro 10 [] true, .ro 8 [.var 0] true, .ro 9 [.var 4] false] (.sv (.one (.bool .ff))))) (.imp (.seq (.ite (.eq (.hP 8 (.var 0) (.add (.add (.var 1) (.mul (.var 50) (.lit 126))) (.lit 125)) 0 0) (.lit (-1))) (.slit ⟨#[]⟩) (.sof 8 (.hP 8 (.var 0) (.add (.add (.var 1) (.mul (.var 50) (.lit 126))) (.lit 125)) 0 0) (.hP 8 (.var 0) (.add (.add (.var 1) (.mul (.var 50) (.lit 126))) (.lit 125)) 0 1) (.hP 8 (.var 0) (.add (.add (.var 1) (.mul (.var 50) (.lit 126))) (.lit 125)) 0 2))) (.ite (.eq (.hP 9 (.var 4) (.add (.add (.var 5) (.mul (.var 50) (.lit 126))) (.lit 125)) 0 0) (.lit (-1))) (.slit ⟨#[]⟩) (.sof 10 (.hP 9 (.var 4) (.add (.add (.var 5) (.mul (.var 50) (.lit 126))) (.lit 125)) 0 0) (.hP 9 (.var 4) (.add (.add (.var 5) (.mul (.var 50) (.lit 126))) (.lit 125)) 0 1) (.hP 9 (.var 4) (.add (.add (.var 5) (.mul (.var 50) (.lit 126))) (.lit 125)) 0 2)))) (.and (.e (.hks 8 (.var 0) (.add (.var 1) (.mul (.var 50) (.lit 126))) hkd)) (.and (.e (.hks 9 (.var 4) (.add (.var 5) (.mul (.var 50) (.lit 126))) hkd)) (.and (.pre (.call 0 60 [.sv (.agg (romCells 8 (.var 0) (.add (.var 1) (.mul (.var 50) (.lit 126))) 0 hkd))] [] [.ro 8 [.var 0] true])) (.ext (.call 0 60 [.sv (.agg (romCells 8 (.var 0) (.add (.var 1) (.mul (.var 50) (.lit 126))) 0 hkd))] [] [.ro 8 [.var 0] true]) (.and (.e (.or (.eq (.var 60) (.lit (-1))) (.or (.eq (.var 62) (.lit 0)) (.and (.le (.lit 0) (.var 60)) (.and (.le (.lit 0) (.var 61)) (.hby 60 (.var 60) (.var 61) (.var 62))))))) (.and (.pre (.call 0 64 [.sv (.agg (romCells 9 (.var 4) (.add (.var 5) (.mul (.var 50) (.lit 126))) 0 hkd))] [] [.ro 10 [] true])) (.ext (.call 0 64 [.sv (.agg (romCells 9 (.var 4) (.add (.var 5) (.mul (.var 50) (.lit 126))) 0 hkd))] [] [.ro 10 [] true]) (.and (.e (.or (.eq (.var 64) (.lit (-1))) (.or (.eq (.var 66) (.lit 0)) (.and (.le (.lit 0) (.var 64)) (.and (.le (.lit 0) (.var 65)) (.hby 64 (.var 64) (.var 65) (.var 66))))))) (.and (.imp (.not (.seq (.ite (.eq (.var 60) (.lit (-1))) (.slit ⟨#[]⟩) (.sof 60 (.var 60) (.var 61) (.var 62))) (.ite (.eq (.var 64) (.lit (-1))) (.slit ⟨#[]⟩) (.sof 64 (.var 64) (.var 65) (.var 66))))) (.post [.ro 10 [] true, .ro 8 [.var 0] true, .ro 9 [.var 4] false, .hp 60 [] [.var 60] [], .hp 64 [] [.var 64] []] (.sv (.one (.bool .ff))))) (.imp (.seq (.ite (.eq (.var 60) (.lit (-1))) (.slit ⟨#[]⟩) (.sof 60 (.var 60) (.var 61) (.var 62))) (.ite (.eq (.var 64) (.lit (-1))) (.slit ⟨#[]⟩) (.sof 64 (.var 64) (.var 65) (.var 66)))) (.back 0 0 [⟨50, 0, .int .i64 (.wrap .i64 (.add (.var 50) (.lit 1)))⟩] [])))))))))))))))))))))))) (.imp (.not (.lt (.var 50) (.var 2))) (.post [.ro 10 [] true, .ro 8 [.var 0] true, .ro 9 [.var 4] false] (.sv (.one (.bool .tt)))))))))))
noncomputable def same20W : Walk Tryd.prog [bytesS 90] 53 where
  Λ := fun p => if lp p then some ⟨0, [(5, TI .i64 (.var 50))], [], 60⟩ else none
  args := [.sv (.one (.sl (.var 0) (.var 1) (.var 2) (.var 3))), .sv (.one (.sl (.var 4) (.var 5) (.var 6) (.var 7)))]
  mem := [.ro 10 [] true, .ro 8 [.var 0] true, .ro 9 [.var 4] false]
  nv := 11
  nd := same20Nd
  ok := by kernel_rfl
theorem RowsP.sl {R RA : Hl} {v : Value} {ps : List Pc} (h : RowsP R RA v ps) : ∃ (x y : Int) (c : Nat), v = .slice (slP x y) ps.length c ∧ 0 ≤ y := by
  obtain ⟨rows, ⟨x, y, c, rfl, hy, _⟩, hl, _⟩ := h
  exact ⟨x, y, c, by rw [hl], hy⟩
theorem same20S_ok : same20S.OK Tryd.prog := by
  refine Spec.of_fn (Γ := [bytesS 90]) (fun t ht => by rw [List.mem_singleton] at ht; subst ht; exact rBytS_ok) ?_
  rintro xs Hs Rs hl1 hl2 ⟨a, b, R1, R2, R3, pa, pb, rfl, rfl, hA, hB, hlen⟩
  have e0 : Hs = [] := List.length_eq_zero_iff.1 hl1
  subst e0
  obtain ⟨x, y, c, rfl, hy⟩ := hA.sl
  obtain ⟨x2, y2, c2, rfl, hy2⟩ := hB.sl
  obtain ⟨_, hAt⟩ := hA.at hy
  obtain ⟨_, hBt⟩ := hB.at hy2
  refine ⟨same20W, envI [x, y, pa.length, c, x2, y2, pb.length, c2] false [Hl.none, Hl.none, Hl.none, Hl.none, Hl.none, Hl.none, Hl.none, Hl.none, R1, R2, R3], fun _ q => ∃ k : Nat, q.i 50 = k ∧ k ≤ pa.length, fun _ q => (pa.length - q.i 50).toNat, ?_, ⟨?_, ?_, ?_, ?_⟩, (fun _ h => nomatch h), ?_⟩
  · show [Value.slice (slP x y) ((pa.length : Int)).toNat ((c : Int)).toNat, Value.slice (slP x2 y2) ((pb.length : Int)).toNat ((c2 : Int)).toNat] = _
    simp only [Int.toNat_natCast]
  · intro r hr ho; simp [same20W] at hr; rcases hr with rfl | rfl | rfl <;> cases ho
  · intro r hr ho; simp [same20W] at hr
    rcases hr with rfl | rfl | rfl
    · exact ⟨R3, by simp, Hl.le_refl _⟩
    · exact ⟨R1, by simp, Hl.le_refl _⟩
    · exact ⟨R2, by simp, Hl.le_refl _⟩
  · simp [same20W, Res.own]
  · intro r hr; simp [same20W] at hr; rcases hr with rfl | rfl | rfl <;> trivial
  show Nd.holds _ _ _ same20Nd
  generalize hρ : envI [x, y, pa.length, c, x2, y2, pb.length, c2] false [Hl.none, Hl.none, Hl.none, Hl.none, Hl.none, Hl.none, Hl.none, Hl.none, R1, R2, R3] = ρ
  have V : ∀ q : Env, Agree 11 ρ q → q.i 0 = x ∧ q.i 1 = y ∧ q.i 2 = pa.length ∧ q.i 4 = x2 ∧ q.i 5 = y2 ∧ q.i 6 = pb.length ∧ q.h 8 = R1 ∧ q.h 9 = R2 ∧ q.h 10 = R3 := fun q hg => by
    rw [hg.i 0 (by omega), hg.i 1 (by omega), hg.i 2 (by omega), hg.i 4 (by omega), hg.i 5 (by omega), hg.i 6 (by omega), hg.h 8 (by omega), hg.h 9 (by omega), hg.h 10 (by omega), ← hρ]
    exact ⟨rfl, rfl, rfl, rfl, rfl, rfl, rfl, rfl, rfl⟩
  clear hρ
  have out : ∀ {q : Env} {e : E} {mem : Mem}, (pa = pb → bev q e = true) → postOf same20S [.slice (slP x y) pa.length c, .slice (slP x2 y2) pb.length c2] [] [R1, R2, R3] q mem (.sv (.one (.bool e))) := by
    intro q e mem he
    refine ret_bool rfl fun a' b' R1' R2' R3' pa' pb' e1 e2 hA' hB' => ?_
    simp only [List.cons.injEq, and_true] at e1 e2
    obtain ⟨rfl, rfl⟩ := e1
    obtain ⟨rfl, rfl, rfl⟩ := e2
    obtain rfl := hA.uniq hA'
    obtain rfl := hB.uniq hB'
    exact ⟨_, rfl, he⟩
  unfold same20Nd
  simp only [Nd.holds, X.pre, X.rel, X.n, Src.ok, Src.len, Src.vals, true_and, and_true, if_true, Nat.mul_one, Nat.add_zero, Nat.reduceAdd, List.length_cons, List.length_nil, bT_tt, bT_ff, bT_bvar, bT_not, bT_and, bT_or, bT_ite, bT_lt, bT_le, bT_eq, bT_beq, bT_seq, bT_hB, bT_his, bT_hby, bT_hism, bT_hks, iev_lit, iev_var, iev_add, iev_sub, iev_mul, iev_wrap, iev_ite, iev_hI, iev_hP, iev_hmlen, sev_ite, sev_slit, sev_sof, sev_svar, TV.ev, SV.ev, CV.ev, List.map_cons, List.map_nil, Res.hl, cpTV, Cp.sv, Ck.cv, cpSVs, Cp.len, Ck.len, newHs_zero, newHs_one, roots_ne, szg, hr5, rsl1]
  obtain ⟨v0, v1, v2, v4, v5, v6, w8, w9, w10⟩ := V ρ (Agree.refl _ _)
  rw [v2, v6]
  refine ⟨by omega, by omega, fun hne => out fun h => absurd (by rw [h]) hne, fun heq => ⟨⟨0, rfl, Nat.zero_le _⟩, fun q g ⟨k, ek, hk⟩ => ?_⟩⟩
  obtain ⟨v0, v1, v2, v4, v5, v6, w8, w9, w10⟩ := V q g
  rw [v0, v1, v2, v4, v5, v6, w8, w9, w10, ek]
  refine ⟨fun hlt => ?_, fun hge => out fun _ => bev_tt _⟩
  have ha : pa[k]? = some pa[k] := List.getElem?_eq_getElem (by omega)
  have hb : pb[k]? = some pb[k] := List.getElem?_eq_getElem (by omega)
  have heq2 : pa = pb → pa[k] = pb[k] := fun h => by
    have := congrArg (fun l => l[k]?) h
    rw [ha, hb] at this
    exact Option.some.inj this
  obtain ⟨row, hP⟩ := hAt k _ ha
  obtain ⟨row2, hP2⟩ := hBt k _ hb
  obtain ⟨u, hu, hub⟩ := hP.body hy
  obtain ⟨u2, hu2, hub2⟩ := hP2.body hy2
  obtain ⟨s1, s2, s3, s4⟩ := rdW_parts hub
  obtain ⟨t1, t2, t3, t4⟩ := rdW_parts hub2
  rw [hu, hu2, s4, t4]
  obtain ⟨m1, m2⟩ := hP.hdr hy
  obtain ⟨n1, n2⟩ := hP2.hdr hy2
  refine ⟨hP.x0, hy, by omega, s1, s3, hP2.x0, hy2, by omega, t1, t3, fun hne => out fun h => absurd (by rw [heq2 h]) hne, fun _ => ⟨m1, n1, ?_⟩⟩
  rw [m2 w8 v0 v1 ek]
  refine ⟨⟨_, R1, _, rfl, rfl, hP.pc.hd⟩, fun q1 g1 ⟨F1, hp1, hF1, hn1⟩ => ?_⟩
  have B1 := byt_res hP.pc.hd hp1
  rw [← hF1 trivial] at B1
  have n1' : -1 ≤ q1.i 60 ∧ 0 ≤ q1.i 61 ∧ 0 ≤ q1.i 62 ∧ 0 ≤ q1.i 63 := hn1.1
  obtain ⟨z1, z2, z3, z4, z5, z6, y8, y9, y10⟩ := V q1 (g.trans (g1.mono (by omega)))
  refine ⟨(rdW_text B1.rd.w n1'.2.1 n1'.2.2.1).1, ?_⟩
  rw [n2 y9 z4 z5 (by rw [g1.i 50 (by omega), ek]), y10]
  refine ⟨⟨_, R3, _, rfl, rfl, hP2.pc.hd⟩, fun q2 g2 ⟨F2, hp2, hF2, hn2⟩ => ?_⟩
  have B2 := byt_res hP2.pc.hd hp2
  rw [← hF2 trivial] at B2
  have n2' : -1 ≤ q2.i 64 ∧ 0 ≤ q2.i 65 ∧ 0 ≤ q2.i 66 ∧ 0 ≤ q2.i 67 := hn2.1
  have B1' : OwB (q2.h 60) 5 (.slice (slP (q2.i 60) (q2.i 61)) (q2.i 62).toNat (q2.i 63).toNat) (bytesOfH pa[k].h) := by
    rw [g2.h 60 (by omega), g2.i 60 (by omega), g2.i 61 (by omega), g2.i 62 (by omega), g2.i 63 (by omega)]; exact B1
  rw [(rdW_text B1'.rd.w (by rw [g2.i 61 (by omega)]; exact n1'.2.1) (by rw [g2.i 62 (by omega)]; exact n1'.2.2.1)).2, (rdW_text B2.rd.w n2'.2.1 n2'.2.2.1).2]
  refine ⟨(rdW_text B2.rd.w n2'.2.1 n2'.2.2.1).1, fun hne => out fun h => absurd (by rw [heq2 h]) hne, fun _ => ⟨⟨k + 1, ?_, by omega⟩, ?_⟩⟩
  · show IntKind.i64.wrap (q2.i 50 + 1) = _
    rw [g2.i 50 (by omega), g1.i 50 (by omega), ek]; exact wrap_i64 (by omega) (by omega)
  · show ((pa.length : Int) - IntKind.i64.wrap (q2.i 50 + 1)).toNat < _
    rw [g2.i 50 (by omega), g1.i 50 (by omega), ek, wrap_i64 (by omega) (by omega)]; omega
end Go.Proofs.YtomdimlnggpgbaaDoor
namespace Go.Proofs.YtomdimlnggpgbaaDoor
open Go Go.Sx Go.Pk
def Rp.Like (a b : Rp) : Prop := cI a.c 0 = cI b.c 0 ∧ cI a.c 1 = cI b.c 1 ∧ cI a.c 2 = cI b.c 2 ∧ segI a.c 3 6 = segI b.c 3 6 ∧ a.p = b.p
noncomputable def sameRS : Sx.Spec where
  fn := 23
  own := []
  rd := [1000009, 1001009, 4001009]
  res := [.one .bool]
  pre := fun xs Hs Rs => ∃ row row2 R1 R2 R3 a b, xs = [.agg row.toArray, .agg row2.toArray] ∧ Rs = [R1, R2, R3] ∧ IsRp R1 R1 row a ∧ IsRp R2 R3 row2 b ∧ a.p.length ≤ 1000000000
  post := fun xs Hs Rs v Hs' F => ∀ row row2 R1 R2 R3 a b, xs = [.agg row.toArray, .agg row2.toArray] → Rs = [R1, R2, R3] → IsRp R1 R1 row a → IsRp R2 R3 row2 b → ∃ z, v = .bool z ∧ (a.Like b → z = true)
def sameRNd : Nd := .ext (.alloc 43) (.ext (.alloc 44) (.and (.imp (.eq (.var 0) (.var 13)) (.and (.imp (.eq (.var 1) (.var 14)) (.and (.imp (.eq (.var 2) (.var 15)) (.and (.imp (.and (.eq (.var 3) (.var 16)) (.and (.eq (.var 4) (.var 17)) (.and (.eq (.var 5) (.var 18)) (.and (.eq (.var 6) (.var 19)) (.and (.eq (.var 7) (.var 20)) (.eq (.var 8) (.var 21))))))) (.and (.pre (.call 0 45 [.sv (.one (.sl (.var 9) (.var 10) (.var 11) (.var 12))), .sv (.one (.sl (.var 22) (.var 23) (.var 24) (.var 25)))] [] [.ro 40 [.var 9] true, .ro 41 [.var 22] false, .ro 42 [] true])) (.ext (.call 0 45 [.sv (.one (.sl (.var 9) (.var 10) (.var 11) (.var 12))), .sv (.one (.sl (.var 22) (.var 23) (.var 24) (.var 25)))] [] [.ro 40 [.var 9] true, .ro 41 [.var 22] false, .ro 42 [] true]) (.post [.ro 42 [] true, .ro 40 [.var 9] true, .ro 41 [.var 22] false, .dead, .dead] (.sv (.one (.bool (.bvar 45)))))))) (.imp (.not (.and (.eq (.var 3) (.var 16)) (.and (.eq (.var 4) (.var 17)) (.and (.eq (.var 5) (.var 18)) (.and (.eq (.var 6) (.var 19)) (.and (.eq (.var 7) (.var 20)) (.eq (.var 8) (.var 21)))))))) (.post [.ro 42 [] true, .ro 40 [.var 9] true, .ro 41 [.var 22] false, .dead, .dead] (.sv (.one (.bool .ff))))))) (.imp (.not (.eq (.var 2) (.var 15))) (.post [.ro 42 [] true, .ro 40 [.var 9] true, .ro 41 [.var 22] false, .dead, .dead] (.sv (.one (.bool .ff))))))) (.imp (.not (.eq (.var 1) (.var 14))) (.post [.ro 42 [] true, .ro 40 [.var 9] true, .ro 41 [.var 22] false, .dead, .dead] (.sv (.one (.bool .ff))))))) (.imp (.not (.eq (.var 0) (.var 13))) (.post [.ro 42 [] true, .ro 40 [.var 9] true, .ro 41 [.var 22] false, .dead, .dead] (.sv (.one (.bool .ff)))))))
noncomputable def sameRW : Walk Tryd.prog [same20S] 23 where
  Λ := noLoops
  args := (cpSVs 0 [.agg rk2, .agg rk2]).map .sv
  mem := [.ro 42 [] true, .ro 40 [.var 9] true, .ro 41 [.var 22] false]
  nv := 43
  nd := sameRNd
  ok := by kernel_rfl
theorem row_env2 {ks ks2 : List Ck} {row row2 : List Value} (hs : List (Nat × Hl)) (h : rowOK row (ks.map kdOf)) (h2 : rowOK row2 (ks2.map kdOf)) : ∃ q : Env, row = (ckCVs 0 ks).map (CV.ev q) ∧ row2 = (ckCVs (ckLen ks) ks2).map (CV.ev q) ∧ ckNormsW 0 ks q ∧ ckNormsW (ckLen ks) ks2 q ∧ ∀ k, q.h k = hsAt hs k := by
  obtain ⟨q, _, hn, e⟩ := row_rep ks 0 row zEnv h
  obtain ⟨q2, g2, hn2, e2⟩ := row_rep ks2 (ckLen ks) row2 q h2
  refine ⟨⟨q2.i, q2.b, q2.s, q2.v, hsAt hs⟩, ?_, by rw [← ck_h (hsAt hs)]; exact e2.symm, nm_h _ _ _ ?_, nm_h _ _ _ hn2, fun _ => rfl⟩
  · rw [← ck_h (hsAt hs), ← e]; exact (ag_row g2 (by omega)).symm
  · exact ckNormsW_agree g2 ks 0 (by omega) hn
theorem srr0 : [same20S][0]? = some same20S := rfl
theorem srr1 : same20S.res = [.one .bool] := rfl
theorem IsRp.m {R RA : Hl} {q : Env} {r : Rp} (x : IsRp R RA ((ckCVs 13 rk2).map (CV.ev q)) r) : cI r.c 0 = q.i 13 ∧ cI r.c 1 = q.i 14 ∧ cI r.c 2 = q.i 15 ∧ cI r.c 3 = q.i 16 ∧ cI r.c 4 = q.i 17 ∧ cI r.c 5 = q.i 18 ∧ cI r.c 6 = q.i 19 ∧ cI r.c 7 = q.i 20 ∧ cI r.c 8 = q.i 21 := by
  rw [x.I (by decide), x.I (by decide), x.I (by decide), x.I (by decide), x.I (by decide), x.I (by decide), x.I (by decide), x.I (by decide), x.I (by decide)]
  exact ⟨rfl, rfl, rfl, rfl, rfl, rfl, rfl, rfl, rfl⟩
theorem sameRS_ok : sameRS.OK Tryd.prog := by
  refine Spec.of_fn (Γ := [same20S]) (fun t ht => by rw [List.mem_singleton] at ht; subst ht; exact same20S_ok) ?_
  rintro xs Hs Rs hl1 hl2 ⟨row, row2, R1, R2, R3, a, b, rfl, rfl, hA, hB, hlen⟩
  have e0 : Hs = [] := List.length_eq_zero_iff.1 hl1
  subst e0
  obtain ⟨ρ, rfl, rfl, hn, hn2, hh⟩ := row_env2 (ks := rk2) (ks2 := rk2) [(40, R1), (41, R2), (42, R3)] hA.ok hB.ok
  have h40 : ρ.h 40 = R1 := hh 40
  have h41 : ρ.h 41 = R2 := hh 41
  have h42 : ρ.h 42 = R3 := hh 42
  have hA : IsRp R1 R1 (rrow ρ) a := hA
  have hB : IsRp R2 R3 ((ckCVs 13 rk2).map (CV.ev ρ)) b := hB
  refine ⟨sameRW, ρ, fun _ _ => True, fun _ _ => 0, rfl, ⟨?_, ?_, ?_, ?_⟩, (fun _ h => nomatch h), ?_⟩
  · intro r hr ho; simp [sameRW] at hr; rcases hr with rfl | rfl | rfl <;> cases ho
  · intro r hr ho; simp [sameRW] at hr
    rcases hr with rfl | rfl | rfl
    · exact ⟨R3, by simp, by show (ρ.h 42).le R3; rw [h42]; exact Hl.le_refl _⟩
    · exact ⟨R1, by simp, by show (ρ.h 40).le R1; rw [h40]; exact Hl.le_refl _⟩
    · exact ⟨R2, by simp, by show (ρ.h 41).le R2; rw [h41]; exact Hl.le_refl _⟩
  · simp [sameRW, Res.own]
  · intro r hr; simp [sameRW] at hr; rcases hr with rfl | rfl | rfl <;> trivial
  show Nd.holds _ _ _ sameRNd
  obtain ⟨a0, a1, a2, a3, a4, a5, a6, a7, a8⟩ := hA.n
  obtain ⟨b0, b1, b2, b3, b4, b5, b6, b7, b8⟩ := hB.m
  have pA : RowsP R1 R1 (.slice (slP (ρ.i 9) (ρ.i 10)) (ρ.i 11).toNat (ρ.i 12).toNat) a.p := hA.ps
  have pB : RowsP R2 R3 (.slice (slP (ρ.i 22) (ρ.i 23)) (ρ.i 24).toNat (ρ.i 25).toNat) b.p := hB.ps
  have hL : a.Like b → ρ.i 0 = ρ.i 13 ∧ ρ.i 1 = ρ.i 14 ∧ ρ.i 2 = ρ.i 15 ∧ (ρ.i 3 = ρ.i 16 ∧ ρ.i 4 = ρ.i 17 ∧ ρ.i 5 = ρ.i 18 ∧ ρ.i 6 = ρ.i 19 ∧ ρ.i 7 = ρ.i 20 ∧ ρ.i 8 = ρ.i 21) ∧ a.p = b.p := by
    rintro ⟨l0, l1, l2, l3, l4⟩
    have l3 : [cI a.c 3, cI a.c 4, cI a.c 5, cI a.c 6, cI a.c 7, cI a.c 8] = [cI b.c 3, cI b.c 4, cI b.c 5, cI b.c 6, cI b.c 7, cI b.c 8] := l3
    rw [a0, b0] at l0
    rw [a1, b1] at l1
    rw [a2, b2] at l2
    rw [a3, a4, a5, a6, a7, a8, b3, b4, b5, b6, b7, b8] at l3
    simp only [List.cons.injEq, and_true] at l3
    exact ⟨l0, l1, l2, l3, l4⟩
  have out : ∀ {q : Env} {e : E} {mem : Mem}, (a.Like b → bev q e = true) → postOf sameRS [.agg ((ckCVs 0 rk2).map (CV.ev ρ)).toArray, .agg ((ckCVs 13 rk2).map (CV.ev ρ)).toArray] [] [R1, R2, R3] q mem (.sv (.one (.bool e))) := by
    intro q e mem he
    refine ret_bool rfl fun row' row2' R1' R2' R3' a' b' e1 e2 hA' hB' => ?_
    simp only [List.cons.injEq, Value.agg.injEq, and_true] at e1 e2
    obtain ⟨rfl, rfl, rfl⟩ := e2
    obtain rfl := List.toArray_inj e1.1
    obtain rfl := List.toArray_inj e1.2
    obtain rfl := hA.uniq hA'
    obtain rfl := hB.uniq hB'
    exact ⟨_, rfl, he⟩
  unfold sameRNd
  simp only [Nd.holds, X.pre, X.rel, X.n, Src.ok, Src.len, Src.vals, true_and, and_true, if_true, Nat.mul_one, Nat.add_zero, Nat.reduceAdd, List.length_cons, List.length_nil, bT_tt, bT_ff, bT_bvar, bT_not, bT_and, bT_or, bT_ite, bT_lt, bT_le, bT_eq, bT_beq, bT_seq, bT_hB, bT_his, bT_hby, bT_hism, bT_hks, iev_lit, iev_var, iev_add, iev_sub, iev_mul, iev_wrap, iev_ite, iev_hI, iev_hP, iev_hmlen, sev_ite, sev_slit, sev_sof, sev_svar, TV.ev, SV.ev, CV.ev, List.map_cons, List.map_nil, Res.hl, cpTV, Cp.sv, Ck.cv, cpSVs, Cp.len, Ck.len, newHs_zero, newHs_one, roots_ne, srr0, srr1]
  intro q0 g0 _ q1 g1 _
  have G : Agree 43 ρ q1 := g0.trans (g1.mono (by omega))
  simp only [G.i, G.h, Nat.reduceLT, h40, h41, h42]
  refine ⟨fun i0 => ⟨fun i1 => ⟨fun i2 => ⟨fun i3 => ⟨⟨_, _, R1, R2, R3, _, _, rfl, rfl, pA, pB, hlen⟩, fun q2 g2 ⟨F2, hp2, _⟩ => ?_⟩, fun n => out fun h => absurd (hL h).2.2.2.1 n⟩, fun n => out fun h => absurd (hL h).2.2.1 n⟩, fun n => out fun h => absurd (hL h).2.1 n⟩, fun n => out fun h => absurd (hL h).1 n⟩
  obtain ⟨z, hz, hz2⟩ := hp2 _ _ R1 R2 R3 _ _ rfl rfl pA pB
  refine out fun h => ?_
  exact (Value.bool.inj hz).trans (hz2 (hL h).2.2.2.2)
def slN (row : List Value) (k : Nat) : Nat := match row[k]? with
  | some (.slice _ l _) => l
  | _ => 0
def few20S : Sx.Spec where
  fn := 26
  own := []
  rd := [0]
  res := [.one .bool]
  pre := fun xs Hs Rs => ∃ u n R rows, xs = [u, .int .i64 n] ∧ Rs = [R] ∧ RdRows R u pkd rows ∧ n ≤ 100
  post := fun xs Hs Rs v Hs' F => ∀ u n R rows, xs = [u, .int .i64 n] → Rs = [R] → RdRows R u pkd rows → ∃ z, v = .bool z ∧ (z = true → (rows.length : Int) ≤ n ∧ ∀ row ∈ rows, slN row 53 ≤ 20 ∧ slN row 125 ≤ 2100)
def few20Nd : Nd := .and (.inv 0 [⟨50, 0, .int .i64 (.lit 0)⟩] []) (.havoc 0 0 6 (.and (.e (.le (.lit 0) (.var 2))) (.and (.imp (.lt (.var 50) (.var 2)) (.and (.imp (.lt (.var 50) (.lit 100)) (.and (.e (.le (.lit 0) (.var 0))) (.and (.e (.le (.lit 0) (.var 1))) (.and (.e (.le (.lit 0) (.var 50))) (.and (.e (.his 5 (.var 0) (.add (.add (.var 1) (.mul (.var 50) (.lit 126))) (.lit 53)) 0 .slice)) (.and (.e (.le (.lit 0) (.hP 5 (.var 0) (.add (.add (.var 1) (.mul (.var 50) (.lit 126))) (.lit 53)) 0 2))) (.and (.imp (.not (.lt (.lit 20) (.hP 5 (.var 0) (.add (.add (.var 1) (.mul (.var 50) (.lit 126))) (.lit 53)) 0 2))) (.and (.e (.his 5 (.var 0) (.add (.add (.var 1) (.mul (.var 50) (.lit 126))) (.lit 125)) 0 .slice)) (.and (.e (.le (.lit 0) (.hP 5 (.var 0) (.add (.add (.var 1) (.mul (.var 50) (.lit 126))) (.lit 125)) 0 2))) (.and (.imp (.lt (.lit 2100) (.hP 5 (.var 0) (.add (.add (.var 1) (.mul (.var 50) (.lit 126))) (.lit 125)) 0 2)) (.post [.ro 5 [.var 0] false] (.sv (.one (.bool .ff))))) (.imp (.not (.lt (.lit 2100) (.hP 5 (.var 0) (.add (.add (.var 1) (.mul (.var 50) (.lit 126))) (.lit 125)) 0 2))) (.back 0 0 [⟨50, 0, .int .i64 (.wrap .i64 (.add (.var 50) (.lit 1)))⟩] [])))))) (.imp (.lt (.lit 20) (.hP 5 (.var 0) (.add (.add (.var 1) (.mul (.var 50) (.lit 126))) (.lit 53)) 0 2)) (.post [.ro 5 [.var 0] false] (.sv (.one (.bool .ff)))))))))))) (.imp (.not (.lt (.var 50) (.lit 100))) (.post [.ro 5 [.var 0] false] (.sv (.one (.bool (.le (.var 2) (.var 4))))))))) (.imp (.not (.lt (.var 50) (.var 2))) (.post [.ro 5 [.var 0] false] (.sv (.one (.bool (.le (.var 2) (.var 4))))))))))
noncomputable def few20W : Walk Tryd.prog [] 26 where
  Λ := fun p => if lp p then some ⟨0, [(5, TI .i64 (.var 50))], [], 60⟩ else none
  args := [.sv (.one (.sl (.var 0) (.var 1) (.var 2) (.var 3))), .sv (.one (.int .i64 (.var 4)))]
  mem := [.ro 5 [.var 0] false]
  nv := 6
  nd := few20Nd
  ok := by kernel_rfl
theorem sl_cell {row : List Value} (h : rowOK row pkd) {k : Nat} (hk : k = 53 ∨ k = 125) : ∃ u, row[k]? = some u ∧ valIs (some u) .slice = true ∧ valP (some u) 2 = slN row k := by
  have hl := rowOK_len h
  rw [pkd_len] at hl
  have hkl : k < row.length := by omega
  refine ⟨row[k], List.getElem?_eq_getElem hkl, ?_⟩
  have h1 : valIs row[k]? .slice = true := by
    obtain ⟨q, hq, _, _⟩ := row_env (ks := pk2) [] h
    rw [hq]
    rcases hk with rfl | rfl <;> kernel_rfl
  rw [List.getElem?_eq_getElem hkl] at h1
  refine ⟨h1, ?_⟩
  unfold slN
  rw [List.getElem?_eq_getElem hkl]
  cases hv : row[k] with
  | slice a l c => simp [valP]
  | _ => rw [hv] at h1; simp [valIs] at h1
theorem few20S_ok : few20S.OK Tryd.prog := by
  refine Spec.of_fn (Γ := []) (fun _ h => nomatch h) ?_
  rintro xs Hs Rs hl1 hl2 ⟨u, n, R, rows, rfl, rfl, hR, hn⟩
  have e0 : Hs = [] := List.length_eq_zero_iff.1 hl1
  subst e0
  obtain ⟨x, y, c, rfl, hy, hr⟩ := id hR
  refine ⟨few20W, envI [x, y, rows.length, c, n] false [Hl.none, Hl.none, Hl.none, Hl.none, Hl.none, R], fun _ q => ∃ k : Nat, q.i 50 = k ∧ k ≤ rows.length ∧ ∀ row ∈ rows.take k, slN row 53 ≤ 20 ∧ slN row 125 ≤ 2100, fun _ q => (rows.length - q.i 50).toNat, ?_, ent_ro rfl rfl, (fun _ h => nomatch h), ?_⟩
  · show [Value.slice (slP x y) ((rows.length : Int)).toNat ((c : Int)).toNat, _] = _
    simp only [Int.toNat_natCast]; rfl
  show Nd.holds _ _ _ few20Nd
  generalize hρ : envI [x, y, rows.length, c, n] false [Hl.none, Hl.none, Hl.none, Hl.none, Hl.none, R] = ρ
  have V : ∀ q : Env, Agree 6 ρ q → q.i 0 = x ∧ q.i 1 = y ∧ q.i 2 = rows.length ∧ q.i 4 = n ∧ q.h 5 = R := fun q hg => by
    rw [hg.i 0 (by omega), hg.i 1 (by omega), hg.i 2 (by omega), hg.i 4 (by omega), hg.h 5 (by omega), ← hρ]
    exact ⟨rfl, rfl, rfl, rfl, rfl⟩
  clear hρ
  have out : ∀ {q : Env} {e : E} {mem : Mem}, (bev q e = true → (rows.length : Int) ≤ n ∧ ∀ row ∈ rows, slN row 53 ≤ 20 ∧ slN row 125 ≤ 2100) → postOf few20S [.slice (slP x y) rows.length c, .int .i64 n] [] [R] q mem (.sv (.one (.bool e))) := by
    intro q e mem he
    refine ret_bool rfl fun u' n' R' rows' e1 e2 hR' => ?_
    simp only [List.cons.injEq, Value.int.injEq, true_and, and_true] at e1 e2
    obtain ⟨rfl, rfl⟩ := e1
    subst e2
    obtain rfl := hR.uniq hR'
    exact ⟨_, rfl, he⟩
  have ff : ∀ {q : Env} {mem : Mem}, postOf few20S [.slice (slP x y) rows.length c, .int .i64 n] [] [R] q mem (.sv (.one (.bool .ff))) := out fun e => by rw [bev_ff] at e; cases e
  unfold few20Nd
  simp only [Nd.holds, X.pre, X.rel, X.n, Src.ok, Src.len, Src.vals, true_and, and_true, if_true, Nat.mul_one, Nat.add_zero, Nat.reduceAdd, List.length_cons, List.length_nil, bT_tt, bT_ff, bT_bvar, bT_not, bT_and, bT_or, bT_ite, bT_lt, bT_le, bT_eq, bT_beq, bT_seq, bT_hB, bT_his, bT_hby, bT_hism, bT_hks, iev_lit, iev_var, iev_add, iev_sub, iev_mul, iev_wrap, iev_ite, iev_hI, iev_hP, iev_hmlen, sev_ite, sev_slit, sev_sof, sev_svar, TV.ev, SV.ev, CV.ev, List.map_cons, List.map_nil, Res.hl]
  refine ⟨⟨0, rfl, Nat.zero_le _, fun row h => by simp at h⟩, fun q g ⟨k, ek, hk, hall⟩ => ?_⟩
  obtain ⟨v0, v1, v2, v4, w5⟩ := V q g
  rw [v0, v1, v2, w5, ek]
  have fin : ∀ {q' : Env} {mem : Mem}, q' = q → (k = rows.length ∨ 100 ≤ k) → postOf few20S [.slice (slP x y) rows.length c, .int .i64 n] [] [R] q' mem (.sv (.one (.bool (.le (.var 2) (.var 4))))) := by
    rintro q' mem rfl hkk
    refine out fun h => ?_
    rw [bev_le, iev_var, iev_var, v2, v4, decide_eq_true_eq] at h
    have : k = rows.length := by omega
    refine ⟨h, fun row hr => hall row ?_⟩
    rw [this, List.take_length]; exact hr
  refine ⟨by omega, fun hlt => ⟨fun h100 => ?_, fun h100 => fin rfl (Or.inr (by omega))⟩, fun hge => fin rfl (Or.inl (by omega))⟩
  have hkr : rows[k]? = some rows[k] := List.getElem?_eq_getElem (by omega)
  rcases hr with rfl | ⟨hx, hr⟩
  · simp at hlt; omega
  obtain ⟨hok, hcell⟩ := hr k _ hkr
  rw [pkd_len] at hcell
  obtain ⟨u1, hu1, s1, s2⟩ := sl_cell hok (Or.inl rfl)
  obtain ⟨u2, hu2, s3, s4⟩ := sl_cell hok (Or.inr rfl)
  have k1 : R.cell x.toNat (y + (k : Int) * 126 + 53).toNat = some u1 := by rw [show (y + (k : Int) * 126 + 53).toNat = y.toNat + k * 126 + 53 by omega]; exact hcell 53 _ hu1
  have k2 : R.cell x.toNat (y + (k : Int) * 126 + 125).toNat = some u2 := by rw [show (y + (k : Int) * 126 + 125).toNat = y.toNat + k * 126 + 125 by omega]; exact hcell 125 _ hu2
  rw [k1, k2, s2, s4]
  refine ⟨hx, hy, by omega, s1, by omega, fun h20 => ⟨s3, by omega, fun _ => ff, fun hb => ⟨⟨k + 1, ?_, by omega, fun row hrow => ?_⟩, ?_⟩⟩, fun _ => ff⟩
  · show IntKind.i64.wrap (q.i 50 + 1) = _
    rw [ek]; exact wrap_i64 (by omega) (by omega)
  · rw [List.take_add_one, hkr, Option.toList_some] at hrow
    rcases List.mem_append.1 hrow with h | h
    · exact hall row h
    · rw [List.mem_singleton] at h; subst h; exact ⟨by omega, by omega⟩
  · show ((rows.length : Int) - IntKind.i64.wrap (q.i 50 + 1)).toNat < _
    rw [ek, wrap_i64 (by omega) (by omega)]; omega
def awkS : Sx.Spec where
  fn := 21
  own := []
  rd := []
  res := [.one .bool]
  pre := fun xs Hs Rs => xs = []
  post := fun xs Hs Rs v Hs' F => v = .bool true
def awkΓ : List Sx.Spec := [oNumS, putVecS, oFlagS, oEndS]
theorem awkΓ_ok : ∀ t ∈ awkΓ, t.OK Tryd.prog := fun t ht => by
  simp only [awkΓ, List.mem_cons, List.mem_nil_iff, or_false] at ht
  rcases ht with rfl | rfl | rfl | rfl
  · exact oNumS_ok
  · exact putVecS_ok
  · exact oFlagS_ok
  · exact oEndS_ok
def awkNd : Nd := .ext (.alloc 0) (.ext (.alloc 1) (.ext (.alloc 2) (.ext (.alloc 3) (.ext (.alloc 4) (.ext (.alloc 5) (.ext (.alloc 6) (.ext (.alloc 7) (.ext (.alloc 8) (.and (.pre (.call 0 9 [.sv (.one (.hptr (.var 8) (.lit 0))), .sv (.one (.int .u64 (.lit 0)))] [.blk 8 [.sl (.lit (-1)) (.lit 0) (.lit 0) (.lit 0), .bool .ff] 124] [])) (.ext (.call 0 9 [.sv (.one (.hptr (.var 8) (.lit 0))), .sv (.one (.int .u64 (.lit 0)))] [.blk 8 [.sl (.lit (-1)) (.lit 0) (.lit 0) (.lit 0), .bool .ff] 124] []) (.and (.pre (.call 0 11 [.sv (.one (.hptr (.var 8) (.lit 0))), .sv (.one (.int .u64 (.lit 2)))] [.hp 9 [] [.var 8] []] [])) (.ext (.call 0 11 [.sv (.one (.hptr (.var 8) (.lit 0))), .sv (.one (.int .u64 (.lit 2)))] [.hp 9 [] [.var 8] []] []) (.and (.pre (.call 1 13 [.sv (.one (.hptr (.var 8) (.lit 0))), .sv (.agg [.int .u64 (.lit 0), .int .u64 (.lit 0), .int .u64 (.lit 0), .int .u64 (.lit 0), .int .u64 (.lit 0), .int .u64 (.lit 0)])] [.hp 11 [9] [.var 8] []] [])) (.ext (.call 1 13 [.sv (.one (.hptr (.var 8) (.lit 0))), .sv (.agg [.int .u64 (.lit 0), .int .u64 (.lit 0), .int .u64 (.lit 0), .int .u64 (.lit 0), .int .u64 (.lit 0), .int .u64 (.lit 0)])] [.hp 11 [9] [.var 8] []] []) (.and (.pre (.call 2 15 [.sv (.one (.hptr (.var 8) (.lit 0))), .sv (.one (.bool .ff))] [.hp 13 [11, 9] [.var 8] []] [])) (.ext (.call 2 15 [.sv (.one (.hptr (.var 8) (.lit 0))), .sv (.one (.bool .ff))] [.hp 13 [11, 9] [.var 8] []] []) (.and (.pre (.call 0 17 [.sv (.one (.hptr (.var 8) (.lit 0))), .sv (.one (.int .u64 (.lit 0)))] [.hp 15 [13, 11, 9] [.var 8] []] [])) (.ext (.call 0 17 [.sv (.one (.hptr (.var 8) (.lit 0))), .sv (.one (.int .u64 (.lit 0)))] [.hp 15 [13, 11, 9] [.var 8] []] []) (.and (.pre (.call 0 19 [.sv (.one (.hptr (.var 8) (.lit 0))), .sv (.one (.int .u64 (.lit 1)))] [.hp 17 [15, 13, 11, 9] [.var 8] []] [])) (.ext (.call 0 19 [.sv (.one (.hptr (.var 8) (.lit 0))), .sv (.one (.int .u64 (.lit 1)))] [.hp 17 [15, 13, 11, 9] [.var 8] []] []) (.and (.pre (.call 3 21 [.sv (.one (.hptr (.var 8) (.lit 0)))] [] [.hp 19 [17, 15, 13, 11, 9] [.var 8] []])) (.ext (.call 3 21 [.sv (.one (.hptr (.var 8) (.lit 0)))] [] [.hp 19 [17, 15, 13, 11, 9] [.var 8] []]) (.and (.imp (.eq (.var 25) (.lit 0)) (.and (.e (.le (.lit 0) (.var 23))) (.post [.dead, .dead, .dead, .dead, .dead, .dead, .dead, .dead, .hp 19 [17, 15, 13, 11, 9] [.var 8] [], .hp 21 [] [.var 21] []] (.sv (.one (.bool (.eq (.var 23) (.lit 11)))))))) (.imp (.not (.eq (.var 25) (.lit 0))) (.post [.dead, .dead, .dead, .dead, .dead, .dead, .dead, .dead, .hp 19 [17, 15, 13, 11, 9] [.var 8] [], .hp 21 [] [.var 21] []] (.sv (.one (.bool .ff))))))))))))))))))))))))))))
noncomputable def awkW : Walk Tryd.prog awkΓ 21 where
  Λ := noLoops
  args := []
  mem := []
  nv := 0
  nd := awkNd
  ok := by kernel_rfl
theorem ag0 : awkΓ[0]? = some oNumS := rfl
theorem ag1 : awkΓ[1]? = some putVecS := rfl
theorem ag2 : awkΓ[2]? = some oFlagS := rfl
theorem ag3 : awkΓ[3]? = some oEndS := rfl
theorem awkS_ok : awkS.OK Tryd.prog := by
  refine Spec.of_fn (Γ := awkΓ) awkΓ_ok ?_
  rintro xs Hs Rs hl1 hl2 rfl
  have e0 : Hs = [] := List.length_eq_zero_iff.1 hl1
  have e1 : Rs = [] := List.length_eq_zero_iff.1 hl2
  subst e0 e1
  refine ⟨awkW, zEnv, fun _ _ => True, fun _ _ => 0, rfl, ent_ro rfl rfl, (fun _ h => nomatch h), ?_⟩
  show Nd.holds _ _ _ awkNd
  unfold awkNd
  simp only [Nd.holds, X.pre, X.rel, X.n, Src.ok, Src.len, Src.vals, true_and, and_true, if_true, Nat.mul_one, Nat.add_zero, Nat.reduceAdd, List.length_cons, List.length_nil, bT_tt, bT_ff, bT_bvar, bT_not, bT_and, bT_or, bT_ite, bT_lt, bT_le, bT_eq, bT_beq, bT_seq, bT_hB, bT_his, bT_hby, bT_hism, bT_hks, iev_lit, iev_var, iev_add, iev_sub, iev_mul, iev_wrap, iev_ite, iev_hI, iev_hP, iev_hmlen, sev_ite, sev_slit, sev_sof, sev_svar, TV.ev, SV.ev, CV.ev, List.map_cons, List.map_nil, Res.hl, cpTV, Cp.sv, Ck.cv, cpSVs, Cp.len, Ck.len, newHs_zero, newHs_one, roots_ne, ag0, ag1, ag2, ag3, apr0, abr6, abr3, ryr4, sc2, rcQ]
  intro q0 _ _ q1 _ _ q2 _ _ q3 _ _ q4 _ _ q5 _ _ q6 _ _ q7 _ _ q8 _ p8
  have P8 : OP (Hl.one (q8.i 8).toNat (Obj.cells #[Value.slice (slP (-1) 0) (Int.toNat 0) (Int.toNat 0), Value.bool (bev q8 E.ff)] 124 (0, 0))) (q8.i 8) [] 0 := OP.new p8
  refine numP P8 (by omega) (by omega) ⟨by omega, by omega⟩ fun q9 g9 P9 => ?_
  refine numP P9 (by omega) (by omega) ⟨by omega, by omega⟩ fun q10 g10 P10 => ?_
  refine vecP (vs := [0, 0, 0, 0, 0, 0]) P10 (by omega) (by omega) rfl (fun z hz => by simp at hz; omega) fun q11 g11 P11 => ?_
  refine flagP P11 (by omega) (by omega) fun q12 g12 P12 => ?_
  refine numP P12 (by omega) (by omega) ⟨by omega, by omega⟩ fun q13 g13 P13 => ?_
  refine numP P13 (by omega) (by omega) ⟨by omega, by omega⟩ fun q14 g14 P14 => ?_
  have P14 : OP (q14.h 19) (q14.i 8) _ _ := P14
  have len : ∀ {l : List Int}, l.length = 11 → (endR l false) = (l, 0) := fun h => by unfold endR; rw [if_neg (by simp; omega)]
  have l11 : ([] ++ numB (Int.toNat 0) ++ numB (Int.toNat 2) ++ vecB [0, 0, 0, 0, 0, 0] ++ flagB (bev q11 E.ff) ++ numB (Int.toNat 0) ++ numB (Int.toNat 1)).length = 11 := by
    simp [vecB, flagB, numB_low]
  have L11 : ∀ {R : Hl} {p : Int} {l : List Int} {n : Nat}, OP R p l n → l.length = 11 → endR l false = (l, 0) ∧ l.length ≤ 1000000 := fun _ h => ⟨len h, by omega⟩
  have fin := L11 P14 l11
  refine ⟨⟨_, _, _, _, rfl, rfl, P14.out, fin.2⟩, fun q15 _ ⟨F, hp, hF, hn⟩ => ?_⟩
  obtain ⟨hB, hE⟩ := end_res P14.out hp
  rw [fin.1] at hB hE
  have h25 : q15.i 25 = 0 := by simpa using hE
  have hn15 : -1 ≤ q15.i 21 ∧ 0 ≤ q15.i 22 ∧ 0 ≤ q15.i 23 ∧ 0 ≤ q15.i 24 := hn.1
  obtain ⟨l23, _⟩ := hB.rd.at hn15.1 hn15.2.1 hn15.2.2.1
  refine ⟨fun _ => ⟨hn15.2.2.1, ret_bool rfl ?_⟩, fun h => absurd h25 h⟩
  show Value.bool (bev q15 ((E.var 23).eq (E.lit 11))) = .bool true
  have : q15.i 23 = 11 := by rw [l23]; have := congrArg Int.ofNat l11; exact this
  congr 1
  rw [bev_eq, iev_var, iev_lit, this]; rfl
end Go.Proofs.YtomdimlnggpgbaaDoor
namespace Go.Proofs.YtomdimlnggpgbaaDoor
open Go Go.Sx Go.Pk
theorem pad_inj {X Y : List Int} (h : rpPad X = rpPad Y) : X = Y := by
  have t : ∀ X : List Int, Trim (rpPad X) (X.length + 1) := fun X => ⟨by unfold rpPad; simp, fun j z hj hz => (pad_at X).2 j z (by omega) hz, Or.inr ⟨1, (pad_at X).1, by omega⟩⟩
  have l : X.length + 1 = Y.length + 1 := by
    have := t X
    rw [h] at this
    exact this.pad
  have e : ∀ X : List Int, (rpPad X).take X.length = X := fun X => by unfold rpPad; rw [List.append_assoc, List.take_left]
  have := e X
  rw [h, show X.length = Y.length by omega, e Y] at this
  exact this.symm
theorem like_of {R RA R' RA' : Hl} {row row' : List Value} {r r' : Rp} (hx : IsRp R RA row r) (hf : r.Form) (hx' : IsRp R' RA' row' r') (hf' : r'.Form) (h : rpPad (rpB r) = rpPad (rpB r')) : r.Like r' := by
  have e := pad_inj h
  obtain ⟨a0, a1, a2, a3, a4, a5, a6, a7⟩ := replyB hx hf
  obtain ⟨b0, b1, b2, b3, b4, b5, b6, b7⟩ := replyB hx' hf'
  rw [← e] at b0 b1 b2 b3 b4 b5
  have hs : (⟨psB r.p, false⟩ : PS) = ⟨psB r'.p, false⟩ := a5.symm.trans b5
  refine ⟨a0.symm.trans b0, a1.symm.trans b1, a2.symm.trans b2, a3.symm.trans b3, ?_⟩
  refine (PcsOf.same (s := ⟨psB r.p, false⟩) a6 rfl a7 b7 (fun j c hc => ?_) (b4.symm.trans a4)).symm
  have hj := (List.getElem?_eq_some_iff.1 hc).1
  obtain ⟨v1, v2⟩ := (pcsBk r'.p b6 j (by omega)).2 c hc
  rw [hs]
  exact ⟨Or.inl ⟨(b6 c (List.mem_iff_getElem?.2 ⟨j, hc⟩)).1.1, v1.symm⟩, v2.symm⟩
theorem IsRp.zero (R RA : Hl) : IsRp R RA rzrow ⟨rzrow.set 9 noV, []⟩ := by
  refine ⟨?_, ?_, rfl, [], ?_, rfl, fun j row p h => by simp at h⟩
  · exact ⟨rfl, rfl, rfl, rfl, rfl, rfl, rfl, rfl, rfl, rfl, trivial⟩
  · intro v hv
    simp only [rzrow, List.mem_cons, List.mem_nil_iff, or_false] at hv
    rcases hv with rfl | rfl | rfl | rfl | rfl | rfl | rfl | rfl | rfl | rfl <;> simp [rngV, i64in]
  · exact (OwR.nil R 0 pkd).rd
theorem b_app {a b : List Int} (h1 : bytes256 a) (h2 : bytes256 b) : bytes256 (a ++ b) := fun z hz => (List.mem_append.1 hz).elim (h1 z) (h2 z)
theorem b_num (n : Nat) : bytes256 (numB n) := fun z hz => numB_byte n z hz
theorem b_flag (b : Bool) : bytes256 (flagB b) := by
  intro z hz
  unfold flagB at hz
  rw [List.mem_singleton] at hz
  subst hz
  cases b <;> simp
theorem b_vec : ∀ (l : List Int), bytes256 (vecB l)
  | [] => fun z hz => by cases hz
  | v :: l => by
    show bytes256 (numB v.toNat ++ vecB l)
    exact b_app (b_num _) (b_vec l)
theorem b_flat {T : List (List Int)} (h : ∀ t ∈ T, bytes256 t) : bytes256 T.flatten := by
  intro z hz
  obtain ⟨t, ht, hz⟩ := List.mem_flatten.1 hz
  exact h t ht z hz
theorem b_seg {R : Hl} {row : List Value} {h : Hd} (hx : IsHd R row h) {a n : Nat} (hk : ∀ j, j < n → hkd[a + j]? = some (.int .u8)) (h53 : ∀ j, j < n → a + j ≠ 53) : bytes256 (segI h.c a n) := by
  intro z hz
  obtain ⟨j, hj, rfl⟩ := List.mem_map.1 hz
  have hj := List.mem_range.1 hj
  rw [hx.I (h53 j hj)]
  obtain ⟨v, hv, hi⟩ := rowOK_get hx.ok (hk j hj)
  have hr := hx.rng v (List.mem_of_getElem? hv)
  unfold cI
  rw [hv]
  cases v <;> simp [valIs] at hi
  subst hi
  exact hr
theorem b_hd {R : Hl} {row : List Value} {h : Hd} (hx : IsHd R row h) : bytes256 (hdB h) := by
  have s1 := b_seg hx (a := 2) (n := 32) (by decide) (by omega)
  have s2 := b_seg hx (a := 37) (n := 16) (by decide) (by omega)
  have s3 := b_seg hx (a := 60) (n := 32) (by decide) (by omega)
  have s4 := b_seg hx (a := 93) (n := 32) (by decide) (by omega)
  unfold hdB coreB coreZ coreA
  exact b_app (b_app (b_app (b_app (b_app (b_app (b_app (b_app (b_app (b_app (b_app (b_app (b_app (b_app (b_app (b_app (b_app (b_num _) (b_num _)) s1) (b_num _)) (b_flag _)) (b_num _)) s2) (b_num _)) (b_flat fun t ht => (hx.byte.2 t ht).2)) (b_num _)) (b_num _)) (b_num _)) (b_num _)) (b_num _)) (b_num _)) s3) (b_num _)) s4
theorem b_text {b : List Int} (h : bytes256 b) : bytes256 (textBytes b) := b_app (b_num _) h
theorem b_pc {R1 R2 : Hl} {row : List Value} {c : Pc} (hx : IsPc R1 R2 row c) : bytes256 (pcB c) := by
  unfold pcB bytesOfH
  refine b_app (b_text ?_) (b_text hx.byte)
  split
  · exact b_hd hx.hd
  · exact fun z hz => by cases hz
theorem b_rp {R RA : Hl} {row : List Value} {r : Rp} (hx : IsRp R RA row r) : bytes256 (rpPad (rpB r)) := by
  obtain ⟨rows, _, hl, hp⟩ := hx.ps
  unfold rpPad rpB rpA
  refine b_app (b_app (b_app (b_app (b_app (b_app (b_app (b_num _) (b_num _)) (b_num _)) (b_vec _)) (b_num _)) (b_flat fun t ht => ?_)) fun z hz => ?_) fun z hz => ?_
  · obtain ⟨c, hc, rfl⟩ := List.mem_map.1 ht
    obtain ⟨j, hj⟩ := List.mem_iff_getElem?.1 hc
    have hjl := (List.getElem?_eq_some_iff.1 hj).1
    exact b_pc (hp j _ c (List.getElem?_eq_getElem (by omega)) hj)
  · simp at hz; omega
  · have := List.eq_of_mem_replicate hz; omega
theorem tup_inj {a b : List Value} {x y : Int} (e : Value.tuple #[.agg a.toArray, .int .i64 x] = .tuple #[.agg b.toArray, .int .i64 y]) : a = b ∧ x = y := by
  have e := List.toArray_inj (Value.tuple.inj e)
  simp only [List.cons.injEq, Value.agg.injEq, Value.int.injEq, true_and, and_true] at e
  exact ⟨List.toArray_inj e.1, e.2⟩
theorem pcs_of {R : Hl} : ∀ (rows : List (List Value)), (∀ prow ∈ rows, ∃ c, IsPc R R prow c) → ∃ ps : List Pc, rows.length = ps.length ∧ ∀ (j : Nat) row p, rows[j]? = some row → ps[j]? = some p → IsPc R R row p
  | [], _ => ⟨[], rfl, fun j row p h => by simp at h⟩
  | r :: rows, h => by
    obtain ⟨c, hc⟩ := h r (List.mem_cons_self ..)
    obtain ⟨ps, hl, hp⟩ := pcs_of rows fun q hq => h q (List.mem_cons_of_mem _ hq)
    refine ⟨c :: ps, by simp [hl], fun j row p h1 h2 => ?_⟩
    cases j with
    | zero => simp at h1 h2; subst h1 h2; exact hc
    | succ j => simp at h1 h2; exact hp j row p h1 h2
noncomputable def jΓ : List Sx.Spec := [rpParS, rpBytS, rrpBytS, formR 28, formR 24, sameRS, awkS, few20S]
theorem jΓ_ok : ∀ t ∈ jΓ, t.OK Tryd.prog := fun t ht => by
  simp only [jΓ, List.mem_cons, List.mem_nil_iff, or_false] at ht
  rcases ht with rfl | rfl | rfl | rfl | rfl | rfl | rfl | rfl
  · exact rpParS_ok
  · exact rpBytS_ok
  · exact rrpBytS_ok
  · exact eFormR_ok
  · exact rFormR_ok
  · exact sameRS_ok
  · exact awkS_ok
  · exact few20S_ok
theorem jg0 : jΓ[0]? = some rpParS := rfl
theorem jg1 : jΓ[1]? = some rpBytS := rfl
theorem jg2 : jΓ[2]? = some rrpBytS := rfl
theorem jg3 : jΓ[3]? = some (formR 28) := rfl
theorem jg4 : jΓ[4]? = some (formR 24) := rfl
theorem jg5 : jΓ[5]? = some sameRS := rfl
theorem jg6 : jΓ[6]? = some awkS := rfl
theorem jg7 : jΓ[7]? = some few20S := rfl
theorem jr0 : rpParS.res = [.agg rk2, .one (.int .i64)] := rfl
theorem jr1 : rpBytS.res = [.one .sl, .one (.int .i64)] := rfl
theorem jr2 : rrpBytS.res = [.one .sl] := rfl
theorem jr3 (f : FuncId) : (formR f).res = [.one .bool] := rfl
theorem jr5 : sameRS.res = [.one .bool] := rfl
theorem jr6 : awkS.res = [.one .bool] := rfl
theorem jr7 : few20S.res = [.one .bool] := rfl
theorem jra : (cpRoots 0 [Cp.agg rk2, Cp.one (.int .i64)] ≠ []) = True := eq_true (List.cons_ne_nil _ _)
theorem jrb : (cpRoots 0 [Cp.one .sl, Cp.one (.int .i64)] ≠ []) = True := eq_true (List.cons_ne_nil _ _)
noncomputable def replsS : Sx.Spec where
  fn := 7
  own := []
  rd := [1000009]
  res := [.one .bool]
  pre := fun xs Hs Rs => ∃ row R rows, xs = [.agg row.toArray] ∧ Rs = [R] ∧ rowOK row rkd ∧ (∀ v ∈ row, rngV v) ∧ RdRows R (row.getD 9 noV) pkd rows ∧ ∀ prow ∈ rows, slN prow 53 ≤ 20 → slN prow 125 ≤ 2100 → ∃ c, IsPc R R prow c
  post := fun xs Hs Rs v Hs' F => v = .bool true
def replsNd : Nd := .ext (.alloc 21) (.and (.pre (.call 6 22 [] [] [])) (.ext (.call 6 22 [] [] []) (.and (.imp (.bvar 22) (.and (.pre (.call 7 23 [.sv (.one (.sl (.var 9) (.var 10) (.var 11) (.var 12))), .sv (.one (.int .i64 (.lit 10)))] [] [.ro 20 [.var 9] true])) (.ext (.call 7 23 [.sv (.one (.sl (.var 9) (.var 10) (.var 11) (.var 12))), .sv (.one (.int .i64 (.lit 10)))] [] [.ro 20 [.var 9] true]) (.and (.imp (.not (.bvar 23)) (.and (.pre (.call 6 24 [] [] [])) (.ext (.call 6 24 [] [] []) (.post [.ro 20 [.var 9] true, .dead] (.sv (.one (.bool (.bvar 24)))))))) (.imp (.bvar 23) (.and (.pre (.call 1 24 [.sv (.agg (ckCVs 0 rk2))] [] [.ro 20 [.var 9] true, .ro 20 [.var 9] true])) (.ext (.call 1 24 [.sv (.agg (ckCVs 0 rk2))] [] [.ro 20 [.var 9] true, .ro 20 [.var 9] true]) (.and (.pre (.call 4 29 [.sv (.agg (ckCVs 0 rk2))] [] [.ro 20 [.var 9] true, .ro 20 [.var 9] true])) (.ext (.call 4 29 [.sv (.agg (ckCVs 0 rk2))] [] [.ro 20 [.var 9] true, .ro 20 [.var 9] true]) (.and (.pre (.call 3 30 [.sv (.agg (ckCVs 0 rk2))] [] [.ro 20 [.var 9] true, .ro 20 [.var 9] true])) (.ext (.call 3 30 [.sv (.agg (ckCVs 0 rk2))] [] [.ro 20 [.var 9] true, .ro 20 [.var 9] true]) (.and (.imp (.not (.beq (.bvar 30) (.bvar 29))) (.post [.ro 20 [.var 9] true, .dead, .hp 24 [] [.var 24] []] (.sv (.one (.bool .ff))))) (.imp (.beq (.bvar 30) (.bvar 29)) (.and (.imp (.not (.bvar 29)) (.and (.imp (.eq (.var 28) (.lit 1)) (.and (.e (.le (.lit 0) (.var 26))) (.post [.ro 20 [.var 9] true, .dead, .hp 24 [] [.var 24] []] (.sv (.one (.bool (.eq (.var 26) (.lit 0)))))))) (.imp (.not (.eq (.var 28) (.lit 1))) (.post [.ro 20 [.var 9] true, .dead, .hp 24 [] [.var 24] []] (.sv (.one (.bool .ff))))))) (.imp (.bvar 29) (.and (.pre (.call 0 31 [.sv (.one (.sl (.var 24) (.var 25) (.var 26) (.var 27)))] [] [.hp 24 [] [.var 24] []])) (.ext (.call 0 31 [.sv (.one (.sl (.var 24) (.var 25) (.var 26) (.var 27)))] [] [.hp 24 [] [.var 24] []]) (.ext (.alloc 45) (.and (.imp (.eq (.var 28) (.lit 0)) (.and (.imp (.eq (.var 44) (.lit 0)) (.and (.e (.or (.eq (.var 24) (.lit (-1))) (.or (.eq (.var 26) (.lit 0)) (.and (.le (.lit 0) (.var 24)) (.and (.le (.lit 0) (.var 25)) (.hby 24 (.var 24) (.var 25) (.var 26))))))) (.and (.pre (.call 2 46 [.sv (.agg (ckCVs 0 rk2))] [] [.ro 20 [.var 9] true, .ro 20 [.var 9] true])) (.ext (.call 2 46 [.sv (.agg (ckCVs 0 rk2))] [] [.ro 20 [.var 9] true, .ro 20 [.var 9] true]) (.and (.e (.or (.eq (.var 46) (.lit (-1))) (.or (.eq (.var 48) (.lit 0)) (.and (.le (.lit 0) (.var 46)) (.and (.le (.lit 0) (.var 47)) (.hby 46 (.var 46) (.var 47) (.var 48))))))) (.and (.imp (.seq (.ite (.eq (.var 24) (.lit (-1))) (.slit ⟨#[]⟩) (.sof 24 (.var 24) (.var 25) (.var 26))) (.ite (.eq (.var 46) (.lit (-1))) (.slit ⟨#[]⟩) (.sof 46 (.var 46) (.var 47) (.var 48)))) (.and (.pre (.call 5 50 [.sv (.agg (ckCVs 31 rk2)), .sv (.agg (ckCVs 0 rk2))] [] [.hp 31 [] [.var 40] [], .ro 20 [.var 9] true, .ro 20 [.var 9] true])) (.ext (.call 5 50 [.sv (.agg (ckCVs 31 rk2)), .sv (.agg (ckCVs 0 rk2))] [] [.hp 31 [] [.var 40] [], .ro 20 [.var 9] true, .ro 20 [.var 9] true]) (.post [.ro 20 [.var 9] true, .dead, .hp 24 [] [.var 24] [], .hp 31 [] [.var 40] [], .dead, .hp 46 [] [.var 46] []] (.sv (.one (.bool (.bvar 50)))))))) (.imp (.not (.seq (.ite (.eq (.var 24) (.lit (-1))) (.slit ⟨#[]⟩) (.sof 24 (.var 24) (.var 25) (.var 26))) (.ite (.eq (.var 46) (.lit (-1))) (.slit ⟨#[]⟩) (.sof 46 (.var 46) (.var 47) (.var 48))))) (.post [.ro 20 [.var 9] true, .dead, .hp 24 [] [.var 24] [], .hp 31 [] [.var 40] [], .dead, .hp 46 [] [.var 46] []] (.sv (.one (.bool .ff))))))))))) (.imp (.not (.eq (.var 44) (.lit 0))) (.post [.ro 20 [.var 9] true, .dead, .hp 24 [] [.var 24] [], .hp 31 [] [.var 40] [], .dead] (.sv (.one (.bool .ff))))))) (.imp (.not (.eq (.var 28) (.lit 0))) (.post [.ro 20 [.var 9] true, .dead, .hp 24 [] [.var 24] [], .hp 31 [] [.var 40] [], .dead] (.sv (.one (.bool .ff)))))))))))))))))))))))) (.imp (.not (.bvar 22)) (.and (.pre (.call 6 23 [] [] [])) (.ext (.call 6 23 [] [] []) (.post [.ro 20 [.var 9] true, .dead] (.sv (.one (.bool (.bvar 23)))))))))))
noncomputable def replsW : Walk Tryd.prog jΓ 7 where
  Λ := noLoops
  args := (cpSVs 0 [.agg rk2]).map .sv
  mem := [.ro 20 [.var 9] true]
  nv := 21
  nd := replsNd
  ok := by kernel_rfl
open Classical in
theorem replsS_ok : replsS.OK Tryd.prog := by
  refine Spec.of_fn (Γ := jΓ) jΓ_ok ?_
  rintro xs Hs Rs hl1 hl2 ⟨row, R, rows, rfl, rfl, hok, hrng, hrd, hpc⟩
  have e0 : Hs = [] := List.length_eq_zero_iff.1 hl1
  subst e0
  obtain ⟨ρ, rfl, hn, hh⟩ := row_env (ks := rk2) [(20, R)] hok
  have h20 : ρ.h 20 = R := hh 20
  refine ⟨replsW, ρ, fun _ _ => True, fun _ _ => 0, rfl, ent_ro rfl (by show [ρ.h 20] = _; rw [h20]), (fun _ h => nomatch h), ?_⟩
  show Nd.holds _ _ _ replsNd
  unfold replsNd
  simp only [Nd.holds, X.pre, X.rel, X.n, Src.ok, Src.len, Src.vals, true_and, and_true, if_true, Nat.mul_one, Nat.add_zero, Nat.reduceAdd, List.length_cons, List.length_nil, bT_tt, bT_ff, bT_bvar, bT_not, bT_and, bT_or, bT_ite, bT_lt, bT_le, bT_eq, bT_beq, bT_seq, bT_hB, bT_his, bT_hby, bT_hism, bT_hks, iev_lit, iev_var, iev_add, iev_sub, iev_mul, iev_wrap, iev_ite, iev_hI, iev_hP, iev_hmlen, sev_ite, sev_slit, sev_sof, sev_svar, TV.ev, SV.ev, CV.ev, List.map_cons, List.map_nil, Res.hl, cpTV, Cp.sv, Ck.cv, cpSVs, Cp.len, Ck.len, newHs_zero, newHs_one, roots_ne, jg0, jg1, jg2, jg3, jg4, jg5, jg6, jg7, jr0, jr1, jr2, jr3, jr5, jr6, jr7, jra, jrb, rsl1]
  intro q0 g0 _
  refine ⟨rfl, fun q1 g1 ⟨_, p1, _, _⟩ => ⟨fun _ => ?_, fun _ => ⟨rfl, fun q2 _ ⟨_, p2, _, _⟩ => ret_bool rfl p2⟩⟩⟩
  have G1 : Agree 21 ρ q1 := g0.trans (g1.mono (by omega))
  have hrd : RdRows R (.slice (slP (ρ.i 9) (ρ.i 10)) (ρ.i 11).toNat (ρ.i 12).toNat) pkd rows := hrd
  rw [G1.i 9 (by omega), G1.i 10 (by omega), G1.i 11 (by omega), G1.i 12 (by omega), G1.h 20 (by omega), h20]
  refine ⟨⟨_, _, _, rows, rfl, rfl, hrd, by omega⟩, fun q2 g2 ⟨_, p2, _, _⟩ => ?_⟩
  obtain ⟨z, hz, hz2⟩ := p2 _ _ _ rows rfl rfl hrd
  have hz : q2.b 23 = z := Value.bool.inj hz
  refine ⟨fun _ => ⟨rfl, fun q3 _ ⟨_, p3, _, _⟩ => ret_bool rfl p3⟩, fun ht => ?_⟩
  rw [hz] at ht
  obtain ⟨_, hall⟩ := hz2 ht
  obtain ⟨ps, hl, hps⟩ := pcs_of rows fun prow hp => hpc prow hp (hall prow hp).1 (hall prow hp).2
  obtain ⟨r, hIs⟩ : ∃ r, IsRp R R ((ckCVs 0 rk2).map (CV.ev ρ)) r := ⟨⟨_, ps⟩, hok, hrng, rfl, rows, hrd, hl, hps⟩
  have G2 : Agree 21 ρ q2 := G1.trans (g2.mono (by omega))
  have RW : ∀ {q : Env}, Agree 21 ρ q → (ckCVs 0 rk2).map (CV.ev q) = (ckCVs 0 rk2).map (CV.ev ρ) ∧ q.h 20 = R := fun g => ⟨ag_row g (a := 0) (ks := rk2) (by decide), by rw [g.h 20 (by omega), h20]⟩
  rw [(RW G2).1, (RW G2).2]
  refine ⟨⟨_, _, _, r, rfl, rfl, hIs⟩, fun q3 g3 ⟨F3, p3, hF3, hn3⟩ => ?_⟩
  obtain ⟨u, hu, hO⟩ := p3 _ _ _ r rfl rfl hIs
  obtain rfl := hF3 trivial
  have hu := List.toArray_inj (Value.tuple.inj hu)
  simp only [List.cons.injEq, Value.int.injEq, true_and, and_true] at hu
  obtain ⟨rfl, h28⟩ := hu
  have hn3 : -1 ≤ q3.i 24 ∧ 0 ≤ q3.i 25 ∧ 0 ≤ q3.i 26 ∧ 0 ≤ q3.i 27 := hn3.1
  have G3 : Agree 21 ρ q3 := G2.trans (g3.mono (by omega))
  rw [(RW G3).1, (RW G3).2]
  refine ⟨⟨_, _, _, r, rfl, rfl, hIs⟩, fun q4 g4 ⟨_, p4, _, _⟩ => ?_⟩
  have p4 : q4.b 29 = decide r.Form := Value.bool.inj (p4 _ _ _ r rfl rfl hIs)
  have G4 : Agree 21 ρ q4 := G3.trans (g4.mono (by omega))
  rw [(RW G4).1, (RW G4).2]
  refine ⟨⟨_, _, _, r, rfl, rfl, hIs⟩, fun q5 g5 ⟨_, p5, _, _⟩ => ?_⟩
  have p5 : q5.b 30 = decide r.Form := Value.bool.inj (p5 _ _ _ r rfl rfl hIs)
  have p5' : q5.b 29 = decide r.Form := by rw [g5.b 29 (by omega), p4]
  have G5 : Agree 21 ρ q5 := G4.trans (g5.mono (by omega))
  have A5 : Agree 29 q3 q5 := g4.trans (g5.mono (by omega))
  refine ⟨fun h => absurd (by rw [p5, p5']) h, fun _ => ⟨fun hno => ?_, fun hyes => ?_⟩⟩
  · have hf : ¬ r.Form := fun h => hno (by rw [p5']; exact decide_eq_true h)
    have e1 : rpRes r = ([], 1) := by unfold rpRes; rw [if_neg hf]
    rw [e1] at h28 hO
    have h28 : q3.i 28 = 1 := h28
    obtain ⟨l26, _⟩ := hO.rd.at hn3.1 hn3.2.1 hn3.2.2.1
    rw [A5.i 28 (by omega), A5.i 26 (by omega)]
    refine ⟨fun _ => ⟨hn3.2.2.1, ret_bool rfl ?_⟩, fun h => absurd h28 h⟩
    show Value.bool (bev q5 _) = .bool true
    congr 1
    rw [bev_eq, iev_var, iev_lit, A5.i 26 (by omega), l26]; rfl
  have hf : r.Form := by rw [p5'] at hyes; exact of_decide_eq_true hyes
  have e1 : rpRes r = (rpPad (rpB r), 0) := by unfold rpRes; rw [if_pos hf]
  rw [e1] at h28 hO
  have h28 : q3.i 28 = 0 := h28
  have hO : OwB (q3.h 24) 5 (.slice (slP (q3.i 24) (q3.i 25)) (q3.i 26).toNat (q3.i 27).toNat) (rpPad (rpB r)) := hO
  obtain ⟨l26, _⟩ := hO.rd.at hn3.1 hn3.2.1 hn3.2.2.1
  have hcap := owB_cap hO hn3.2.2.1 hn3.2.2.2
  have hlen : (rpPad (rpB r)).length ≤ 1000000 := by
    have h1 := rpB_le hIs hf
    have h2 := pad_len (rpB r) (by omega)
    have h3 := batch_le (((rpB r).length : Int) + 1)
    omega
  have hW := hO.rd.w
  rw [A5.i 24 (by omega), A5.i 25 (by omega), A5.i 26 (by omega), A5.i 27 (by omega), A5.h 24 (by omega)]
  have ev : Value.slice (slP (q3.i 24) (q3.i 25)) (q3.i 26).toNat (q3.i 27).toNat = .slice (slP (q3.i 24) (q3.i 25)) (rpPad (rpB r)).length (q3.i 27).toNat := by rw [l26, Int.toNat_natCast]
  refine ⟨⟨_, _, _, rpPad (rpB r), _, by rw [ev], rfl, by rw [← ev]; exact hW, hn3.2.1, by omega, b_rp hIs, hlen⟩, fun q6 g6 ⟨F6, p6, hF6, hn6⟩ q7 g7 _ => ?_⟩
  have p6 := p6 _ _ _ rfl rfl hW
  obtain rfl := hF6 trivial
  obtain ⟨row', r', e, hIs', hf', hpad⟩ := p6.resolve_right fun h => h.2 _ _ _ r hIs hf rfl
  obtain ⟨e1', e2'⟩ := tup_inj e
  have e2' : q6.i 44 = 0 := e2'
  have A7 : Agree 29 q3 q7 := A5.trans ((g6.mono (by omega)).trans (g7.mono (by omega)))
  have G7 : Agree 21 ρ q7 := G3.trans (A7.mono (by omega))
  refine ⟨fun _ => ⟨fun _ => ?_, fun h => absurd (by rw [g7.i 44 (by omega), e2']) h⟩, fun h => absurd (by rw [A7.i 28 (by omega), h28]) h⟩
  have T : ∀ {q : Env}, Agree 29 q3 q → RdW (q.h 24) (.slice (slP (q.i 24) (q.i 25)) (q.i 26).toNat (q.i 27).toNat) (rpPad (rpB r)) ∧ 0 ≤ q.i 25 ∧ 0 ≤ q.i 26 := fun g => by
    rw [g.i 24 (by omega), g.i 25 (by omega), g.i 26 (by omega), g.i 27 (by omega), g.h 24 (by omega)]
    exact ⟨hW, hn3.2.1, hn3.2.2.1⟩
  rw [(RW G7).1, (RW G7).2]
  refine ⟨(rdW_text (T A7).1 (T A7).2.1 (T A7).2.2).1, ⟨_, _, _, r, rfl, rfl, hIs, hf⟩, fun q8 g8 ⟨F8, p8, hF8, hn8⟩ => ?_⟩
  have p8 := p8 _ _ _ r rfl rfl hIs
  obtain rfl := hF8 trivial
  have hn8 : -1 ≤ q8.i 46 ∧ 0 ≤ q8.i 47 ∧ 0 ≤ q8.i 48 ∧ 0 ≤ q8.i 49 := hn8.1
  obtain ⟨t1, t2⟩ := rdW_text p8.rd.w hn8.2.1 hn8.2.2.1
  have A8 : Agree 29 q3 q8 := A7.trans (g8.mono (by omega))
  have G8 : Agree 21 ρ q8 := G3.trans (A8.mono (by omega))
  have t3 := (rdW_text (T A8).1 (T A8).2.1 (T A8).2.2).2
  refine ⟨t1, fun _ => ?_, fun h => absurd (by rw [t2, t3]) h⟩
  have A68 : Agree 45 q6 q8 := g7.trans (g8.mono (by omega))
  rw [(RW G8).1, (RW G8).2, ag_row A68 (a := 31) (ks := rk2) (by decide), A68.h 31 (by omega), e1']
  have h8 := hf'.2.2.2.1
  refine ⟨⟨row', _, _, _, _, r', r, rfl, rfl, hIs', hIs, by omega⟩, fun q9 g9 ⟨_, p9, _, _⟩ => ret_bool rfl ?_⟩
  obtain ⟨z, hz, hz2⟩ := p9 row' _ _ _ _ r' r rfl rfl hIs' hIs
  rw [hz2 (like_of hIs' hf' hIs hf hpad)] at hz
  exact hz
end Go.Proofs.YtomdimlnggpgbaaDoor
namespace Go.Sx
open Go Go.ChangeShapes Go.WideShapes Go.ChangeAt Go.RowKit Go.Deep
def okC (v : Value) : Kd → Prop
  | .int k => ∃ n, v = .int k n ∧ (Lit.int k n).wf = true
  | .bool => ∃ b, v = .bool b
  | _ => False
def okCs : List Value → List Kd → Prop
  | [], [] => True
  | v :: l, k :: m => okC v k ∧ okCs l m
  | _, _ => False
theorem okCs_append : ∀ {l m : List Value} {a b : List Kd}, okCs l a → okCs m b → okCs (l ++ m) (a ++ b)
  | [], m, [], b, _, h => h
  | v :: l, m, k :: a, b, h, h2 => ⟨h.1, okCs_append h.2 h2⟩
  | [], _, _ :: _, _, h, _ => h.elim
  | _ :: _, _, [], _, h, _ => h.elim
theorem okCs_get : ∀ {l : List Value} {a : List Kd}, okCs l a → ∀ (j : Nat) (k : Kd), a[j]? = some k → ∃ v, l[j]? = some v ∧ okC v k
  | _ :: l, _ :: a, h, 0, k, hk => by simp at hk; subst hk; exact ⟨_, rfl, h.1⟩
  | _ :: l, _ :: a, h, j + 1, k, hk => by simpa using okCs_get h.2 j k (by simpa using hk)
  | [], [], _, j, k, hk => by simp at hk
  | [], _ :: _, h, _, _, _ => h.elim
  | _ :: _, [], h, _, _, _ => h.elim
def fieldsK (f : TypeId → Option (List Kd)) : List Field → Nat → Option (List Kd)
  | [], _ => some []
  | fl :: l, o => if fl.offset = o then match f fl.type with
    | some a => match fieldsK f l (o + a.length) with
      | some b => some (a ++ b)
      | none => none
    | none => none
    else none
def repK (a : List Kd) : Nat → List Kd
  | 0 => []
  | n + 1 => a ++ repK a n
def kindsT (P : Program) : Nat → TypeId → Option (List Kd)
  | 0, _ => none
  | d + 1, t => match P.underlying t with
    | some (.int k) => some [.int k]
    | some .bool => some [.bool]
    | some (.array n e) => match kindsT P d e with
      | some a => if a.length = P.cellsOf e ∧ P.cellsOf t = n * a.length then some (repK a n) else none
      | none => none
    | some (.struct fs) => match fieldsK (fun u => (kindsT P d u).bind fun a => if a.length = P.cellsOf u then some a else none) fs.toList 0 with
      | some a => if a.length = P.cellsOf t then some a else none
      | none => none
    | _ => none
section
variable {H : Type} {enc : TypeId × Value → H} {P : Program} {w : World} {base : Nat} {spare : Nat → Bool} {held : Bool}
theorem trod_fields {g : TypeId → Option (List Kd)} {cs : List Value} : ∀ (l : List Field) (o : Nat) (ks : List Kd), fieldsK g l o = some ks →
    (∀ (fl : Field) (a : List Kd), fl ∈ l → g fl.type = some a → okCs ((cs.drop fl.offset).take a.length) a) → okCs ((cs.drop o).take ks.length) ks
  | [], o, ks, h, _ => by cases h; simp [okCs]
  | fl :: l, o, ks, h, hq => by
    simp only [fieldsK] at h
    split at h
    · rename_i ho; subst ho
      split at h
      · rename_i a ha
        split at h
        · rename_i b hb
          cases h
          have h1 := hq fl a (by simp) ha
          have h2 := trod_fields l (fl.offset + a.length) b hb fun f c hf hc => hq f c (List.mem_cons_of_mem _ hf) hc
          have e : (cs.drop fl.offset).take (a ++ b).length = (cs.drop fl.offset).take a.length ++ (cs.drop (fl.offset + a.length)).take b.length := by
            rw [List.length_append, List.take_add, List.drop_drop]
          rw [e]
          exact okCs_append h1 h2
        · cases h
      · cases h
    · cases h
theorem trod_reps {cs : List Value} {a : List Kd} : ∀ (n : Nat) (o : Nat), (∀ i, i < n → okCs ((cs.drop (o + i * a.length)).take a.length) a) → okCs ((cs.drop o).take (n * a.length)) (repK a n)
  | 0, o, _ => by simp [okCs, repK]
  | n + 1, o, h => by
    have h0 := h 0 (by omega)
    simp only [Nat.zero_mul, Nat.add_zero] at h0
    have ih := trod_reps n (o + a.length) fun i hi => by
      have := h (i + 1) (by omega)
      rwa [Nat.add_mul, Nat.one_mul, Nat.add_comm (i * a.length), ← Nat.add_assoc] at this
    have e : (cs.drop o).take ((n + 1) * a.length) = (cs.drop o).take a.length ++ (cs.drop (o + a.length)).take (n * a.length) := by
      rw [Nat.add_mul, Nat.one_mul, Nat.add_comm (n * a.length), List.take_add, List.drop_drop]
    rw [e]
    exact okCs_append h0 ih
theorem trod_kinds : ∀ (d : Nat) (t : TypeId) (ks : List Kd) (fuel : Nat) (cs : List Value) (x : DataW H × List MemPlace), kindsT P d t = some ks → DataW.trod enc P w base spare held fuel t cs = some x → okCs cs ks := by
  intro d
  induction d with
  | zero => intro t ks fuel cs x h; cases h
  | succ d ih =>
    intro t ks fuel cs x h hx
    simp only [kindsT] at h
    split at h
    · rename_i k hu
      cases h
      obtain ⟨n, rfl, _, hw⟩ := DataW.trod_int hu hx
      exact ⟨⟨n, rfl, hw⟩, trivial⟩
    · rename_i hu
      cases h
      obtain ⟨b, rfl, _⟩ := DataW.trod_bool hu hx
      exact ⟨⟨b, rfl⟩, trivial⟩
    · rename_i n e hu
      split at h
      · rename_i a ha
        split at h
        · rename_i hc
          cases h
          obtain ⟨xs, m, _, _, hl, hxl, hxi⟩ := DataW.trod_array hu hx
          have key := trod_reps (cs := cs) (a := a) n 0 fun i hi => by
            have h1 := hxi i hi
            rw [← hc.1, List.getElem?_eq_getElem (by omega)] at h1
            rw [Nat.zero_add]
            exact ih e a m _ _ ha h1
          rw [List.drop_zero, ← hc.2, ← hl, List.take_length] at key
          exact key
        · cases h
      · cases h
    · rename_i fs hu
      split at h
      · rename_i a ha
        split at h
        · rename_i hc
          cases h
          obtain ⟨xs, m, _, _, hl, hxl, hxi⟩ := DataW.trod_struct hu hx
          have key := trod_fields (cs := cs) fs.toList 0 ks ha fun fl b hfl hb => by
            obtain ⟨i, hi⟩ := List.getElem?_of_mem hfl
            have hi' : fs[i]? = some fl := by simpa using hi
            have h1 := hxi i fl hi'
            cases hk : kindsT P d fl.type with
            | none => simp [hk] at hb
            | some b' =>
              simp only [hk, Option.bind_some] at hb
              split at hb
              · rename_i hlen
                cases hb
                have hlt : i < xs.length := by rw [hxl]; exact (Array.getElem?_eq_some_iff.1 hi').1
                rw [← hlen, List.getElem?_eq_getElem hlt] at h1
                exact ih fl.type b m _ _ hk h1
              · cases hb
          rw [List.drop_zero, hc, ← hl, List.take_length] at key
          exact key
        · cases h
      · cases h
    · cases h
theorem okC_valIs {v : Value} {k : Kd} (h : okC v k) : valIs (some v) k = true := by
  cases k with
  | int k => obtain ⟨n, rfl, _⟩ := h; simp [valIs]
  | bool => obtain ⟨b, rfl⟩ := h; rfl
  | _ => exact h.elim
theorem open_rows {t e : TypeId} {ks : List Kd} {dp : Nat} {fuel : Nat} {cs : List Value} {x : DataW H × List MemPlace} (ht : P.underlying t = some (.slice e)) (hk : kindsT P dp e = some ks) (hC : P.cellsOf e = ks.length)
    (h : DataW.trod enc P w base spare held fuel t cs = some x) :
    cs = [.slice none 0 0] ∨ ∃ (a : Addr) (len cap : Nat), cs = [.slice (some a) len cap] ∧ len ≤ cap ∧ cap ≤ maxLen ∧
      ∀ i, i < len → ∀ (j : Nat) (k : Kd), ks[j]? = some k → ∃ v, w.cell? (a.add (i * ks.length + j)) = some v ∧ okC v k := by
  rcases open_slice ht h with h0 | ⟨a, len, cap, m, n, D, Pl, hcs, hb, hl, hm, hmm, hx, hi⟩
  · exact Or.inl h0.1
  · refine Or.inr ⟨a, len, cap, hcs, hl, hm, fun i hil j k hj => ?_⟩
    have him : i < m := by rw [hmm]; split <;> omega
    obtain ⟨cs', hc, ht'⟩ := hi i him
    rw [hC] at hc
    obtain ⟨_, hcl, hat⟩ := World.cells?_some hc
    have hok := trod_kinds dp e ks n cs' _ hk ht'
    obtain ⟨v, hv, hov⟩ := okCs_get hok j k hj
    have hjl : j < ks.length := (List.getElem?_eq_some_iff.1 hj).1
    refine ⟨v, ?_, hov⟩
    rw [← Go.Deep.add_add, hat j hjl, hv]
end
end Go.Sx
namespace Go.Sx
open Go Go.ChangeShapes Go.WideShapes Go.ChangeAt Go.RowKit Go.Deep
theorem u64_wf {n : Int} (h : (Lit.int .u64 n).wf = true) : 0 ≤ n ∧ n < 18446744073709551616 := by
  simp only [Lit.wf, IntKind.min, IntKind.max, IntKind.signed, IntKind.bits, Bool.and_eq_true, decide_eq_true_eq] at h
  simp at h
  omega
theorem u8_wf {n : Int} (h : (Lit.int .u8 n).wf = true) : 0 ≤ n ∧ n < 256 := by
  simp only [Lit.wf, IntKind.min, IntKind.max, IntKind.signed, IntKind.bits, Bool.and_eq_true, decide_eq_true_eq] at h
  simp at h
  omega
theorem i64_wf {n : Int} (h : (Lit.int .i64 n).wf = true) : -9223372036854775808 ≤ n ∧ n < 9223372036854775808 := by
  simp only [Lit.wf, IntKind.min, IntKind.max, IntKind.signed, IntKind.bits, Bool.and_eq_true, decide_eq_true_eq] at h
  simp at h
  omega
theorem rowOK_of : ∀ {row : List Value} {ks : List Kd}, okCs row ks → rowOK row ks
  | [], [], _ => trivial
  | _ :: _, _ :: _, h => ⟨okC_valIs h.1, rowOK_of h.2⟩
  | [], _ :: _, h => h.elim
  | _ :: _, [], h => h.elim
theorem okCs_of_get : ∀ {ks : List Kd} {row : List Value}, row.length = ks.length → (∀ (j : Nat) (k : Kd), ks[j]? = some k → ∃ v, row[j]? = some v ∧ okC v k) → okCs row ks
  | [], [], _, _ => trivial
  | k :: ks, v :: row, hl, h => by
    refine ⟨?_, okCs_of_get (by simpa using hl) fun j k' hj => ?_⟩
    · obtain ⟨u, hu, ho⟩ := h 0 k rfl
      simp at hu; subst hu; exact ho
    · have := h (j + 1) k' (by simpa using hj)
      simpa using this
  | [], _ :: _, hl, _ => by simp at hl
  | _ :: _, [], hl, _ => by simp at hl
section
variable {H : Type} {enc : TypeId × Value → H} {P : Program} {W : World} {base : Nat} {spare : Nat → Bool} {held : Bool} {d : DataW H} {p : List MemPlace}
theorem all_cell {b y : Nat} {v : Value} (h : W.cell? ⟨b, y, none⟩ = some v) : (Hl.all W).cell b y = some v := by
  unfold Hl.cell Hl.all
  unfold World.cell? at h
  split at h
  · rename_i c T fr hb
    rw [hb]
    simpa using h
  · cases h
theorem cell_spot {a : Addr} {v : Value} (hv : W.cell? a = some v) : a.spot = none := by
  unfold World.cell? at hv
  split at hv
  · split at hv
    · cases hv
    · rename_i h; simpa using h
  · cases hv
theorem rdRows_of {t e : TypeId} {ks : List Kd} {dp : Nat} (ht : P.underlying t = some (.slice e)) (hk : kindsT P dp e = some ks) (hC : P.cellsOf e = ks.length) (hks : 0 < ks.length) {v : Value} (hv : ∃ a l c, v = .slice a l c) (h : DataW.Trod enc P W base spare held t v d p) :
    ∃ rows, RdRows (Hl.all W) v ks rows ∧ ∀ row ∈ rows, okCs row ks := by
  obtain ⟨a0, len0, cap0, rfl⟩ := hv
  obtain ⟨fuel, hf⟩ := h
  rcases open_rows ht hk hC hf with h | ⟨a, len, cap, hcs, hl, hc, hat⟩
  · simp only [Value.cells, List.cons.injEq, Value.slice.injEq, and_true] at h
    obtain ⟨rfl, rfl, rfl⟩ := h
    exact ⟨[], ⟨-1, 0, 0, rfl, by omega, Or.inl rfl⟩, fun _ h => nomatch h⟩
  · simp only [Value.cells, List.cons.injEq, Value.slice.injEq, and_true] at hcs
    obtain ⟨rfl, rfl, rfl⟩ := hcs
    rcases Nat.eq_zero_or_pos len0 with h0 | h0
    · subst h0
      obtain ⟨x, y, hx, hy, _⟩ := slP_all (some a)
      exact ⟨[], ⟨x, y, cap0, by rw [hx]; rfl, hy, Or.inl rfl⟩, fun _ h => nomatch h⟩
    · have hsp : a.spot = none := by
        obtain ⟨v, hv, _⟩ := hat 0 h0 0 ks[0] (List.getElem?_eq_getElem hks)
        simp only [Nat.zero_mul, Nat.add_zero, Addr.add, if_true] at hv
        exact cell_spot hv
      obtain ⟨blk, off, spot⟩ := a
      simp only at hsp
      subst hsp
      let row : Nat → List Value := fun i => (List.range ks.length).map fun j => (W.cell? ⟨blk, off + (i * ks.length + j), none⟩).getD (.bool false)
      have hrow : ∀ i, i < len0 → okCs (row i) ks ∧ ∀ j u, (row i)[j]? = some u → W.cell? ⟨blk, off + (i * ks.length + j), none⟩ = some u := by
        intro i hi
        have hg : ∀ (j : Nat) (k : Kd), ks[j]? = some k → ∃ v, (row i)[j]? = some v ∧ W.cell? ⟨blk, off + (i * ks.length + j), none⟩ = some v ∧ okC v k := by
          intro j k hj
          obtain ⟨v, hv, ho⟩ := hat i hi j k hj
          rw [addr_add] at hv
          have hjl : j < ks.length := (List.getElem?_eq_some_iff.1 hj).1
          refine ⟨v, ?_, hv, ho⟩
          simp only [row, List.getElem?_map, List.getElem?_range hjl, Option.map_some, hv, Option.getD_some]
        refine ⟨okCs_of_get (by simp [row]) fun j k hj => ?_, fun j u hu => ?_⟩
        · obtain ⟨v, h1, _, h2⟩ := hg j k hj; exact ⟨v, h1, h2⟩
        · have hjl : j < ks.length := by have := (List.getElem?_eq_some_iff.1 hu).1; simpa [row] using this
          obtain ⟨v, h1, h2, _⟩ := hg j ks[j] (List.getElem?_eq_getElem hjl)
          rw [hu] at h1; cases h1; exact h2
      refine ⟨(List.range len0).map row, ⟨blk, off, cap0, ?_, by omega, Or.inr ⟨by omega, fun i r hr => ?_⟩⟩, fun r hr => ?_⟩
      · rw [slP_pos (by omega), List.length_map, List.length_range]; rfl
      · have hi : i < len0 := by have := (List.getElem?_eq_some_iff.1 hr).1; simpa using this
        rw [List.getElem?_map, List.getElem?_range hi, Option.map_some, Option.some.injEq] at hr
        subst hr
        obtain ⟨h1, h2⟩ := hrow i hi
        refine ⟨rowOK_of h1, fun j u hu => ?_⟩
        rw [Int.toNat_natCast, Int.toNat_natCast, Nat.add_assoc]
        exact all_cell (h2 j u hu)
      · obtain ⟨i, hi, rfl⟩ := List.mem_map.1 hr
        exact (hrow i (List.mem_range.1 hi)).1
end
theorem spec_yes {P : Program} {s : Spec} (h : s.OK P) (ho : s.own = []) {W : World} {xs : List Value} (hpre : s.pre xs [] (List.replicate s.rd.length (Hl.all W)))
    (hpost : ∀ ρ F, s.post xs [] (List.replicate s.rd.length (Hl.all W)) ((cpTV 0 s.res).ev ρ) [] F → (cpTV 0 s.res).ev ρ = .bool true) :
    Calls P s.fn xs.toArray W fun e w' => e = .returned (.bool true) ∧ Below W.heap.size W w' := by
  have := h W xs [] (List.replicate s.rd.length (Hl.all W)) (by rw [ho]; rfl) (by simp) (fun _ h => nomatch h) (fun R hR => by rw [(List.mem_replicate.1 hR).2]; exact Hl.all_sub W) (fun p _ H _ _ h => by simp at h) (fun _ h => nomatch h) hpre
  refine this.mono ?_
  rintro e w' ⟨ρ, Hs', F, rfl, _, ht, hp⟩
  have e0 : Hs' = [] := List.length_eq_zero_iff.1 ht.len
  subst e0
  exact ⟨by rw [hpost ρ F hp], ⟨ht.os, ht.tape, ht.output, ht.size, fun b hb => ht.block b hb (fun _ h => nomatch h)⟩⟩
end Go.Sx
namespace Go.Sx
open Go Go.ChangeShapes Go.WideShapes Go.ChangeAt Go.RowKit Go.Deep
section
variable {H : Type} {enc : TypeId × Value → H} {P : Program} {W : World} {base : Nat} {spare : Nat → Bool} {held : Bool} {d : DataW H} {p : List MemPlace}
theorem bytes_of {t e : TypeId} {dp : Nat} (ht : P.underlying t = some (.slice e)) (hk : kindsT P dp e = some [.int .u8]) (hC : P.cellsOf e = 1) {v : Value} (hv : ∃ a l c, v = .slice a l c) (h : DataW.Trod enc P W base spare held t v d p) :
    ∃ bs, RdW (Hl.all W) v bs ∧ ∀ b ∈ bs, 0 ≤ b ∧ b < 256 := by
  obtain ⟨a0, len0, cap0, rfl⟩ := hv
  obtain ⟨fuel, hf⟩ := h
  rcases open_rows ht hk hC hf with h | ⟨a, len, cap, hcs, hl, hc, hat⟩
  · simp only [Value.cells, List.cons.injEq, Value.slice.injEq, and_true] at h
    obtain ⟨rfl, rfl, rfl⟩ := h
    exact ⟨[], ⟨-1, 0, 0, rfl, by omega, Or.inl rfl⟩, fun _ h => nomatch h⟩
  · simp only [Value.cells, List.cons.injEq, Value.slice.injEq, and_true] at hcs
    obtain ⟨rfl, rfl, rfl⟩ := hcs
    rcases Nat.eq_zero_or_pos len0 with h0 | h0
    · subst h0
      obtain ⟨x, y, hx, hy, _⟩ := slP_all (some a)
      exact ⟨[], ⟨x, y, cap0, by rw [hx]; rfl, hy, Or.inl rfl⟩, fun _ h => nomatch h⟩
    · have hcell : ∀ i, i < len0 → ∃ n, W.cell? (a.add i) = some (.int .u8 n) ∧ 0 ≤ n ∧ n < 256 := by
        intro i hi
        obtain ⟨v, hv, ho⟩ := hat i hi 0 _ rfl
        obtain ⟨n, rfl, hw⟩ := ho
        refine ⟨n, ?_, u8_wf hw⟩
        rw [show i = i * ([Kd.int .u8] : List Kd).length + 0 by simp]; exact hv
      have hsp : a.spot = none := by
        obtain ⟨n, hn, _⟩ := hcell 0 h0
        simp only [Addr.add, if_true, Nat.add_zero] at hn
        exact cell_spot hn
      obtain ⟨blk, off, spot⟩ := a
      simp only at hsp
      subst hsp
      have hget : ∀ j z, ((List.range len0).map fun i => valI (W.cell? ⟨blk, off + i, none⟩))[j]? = some z → W.cell? ⟨blk, off + j, none⟩ = some (.int .u8 z) ∧ 0 ≤ z ∧ z < 256 := by
        intro j z hz
        have hj : j < len0 := by have := (List.getElem?_eq_some_iff.1 hz).1; simpa using this
        rw [List.getElem?_map, List.getElem?_range hj] at hz
        simp only [Option.map_some, Option.some.injEq] at hz
        obtain ⟨n, hn, hr⟩ := hcell j hj
        rw [addr_add] at hn
        rw [hn] at hz
        have hz : n = z := hz
        subst hz
        exact ⟨hn, hr⟩
      refine ⟨(List.range len0).map fun i => valI (W.cell? ⟨blk, off + i, none⟩), ⟨blk, off, cap0, ?_, by omega, Or.inr ⟨by omega, fun j z hz => ?_⟩⟩, fun b hb => ?_⟩
      · rw [slP_pos (by omega), List.length_map, List.length_range]; rfl
      · simp only [Int.toNat_natCast]
        exact all_cell (hget j z hz).1
      · obtain ⟨j, hj⟩ := List.mem_iff_getElem?.1 hb
        exact (hget j b hj).2
end
end Go.Sx
namespace Go.Sx
open Go Go.ChangeShapes Go.WideShapes Go.ChangeAt Go.RowKit Go.Deep
section
variable {H : Type} {enc : TypeId × Value → H} {P : Program} {W : World} {base : Nat} {spare : Nat → Bool} {held : Bool} {d : DataW H} {p : List MemPlace}
end
end Go.Sx
namespace Go.Ex
open Go Go.ChangeShapes Go.WideShapes Go.ChangeAt Go.RowKit Go.Deep
inductive Kt | int (k : IntKind) | bool | other (t : TypeId)
def okK (Φ : Value → TypeId → Prop) (v : Value) : Kt → Prop
  | .int k => ∃ n, v = .int k n ∧ (Lit.int k n).wf = true
  | .bool => ∃ b, v = .bool b
  | .other t => Φ v t
variable {Φ : Value → TypeId → Prop}
def SlOK (Φ : Value → TypeId → Prop) : Prop := ∀ v t, Φ v t → ∃ a len cap, v = .slice a len cap
def okKs (Φ : Value → TypeId → Prop) : List Value → List Kt → Prop
  | [], [] => True
  | v :: l, k :: m => okK Φ v k ∧ okKs Φ l m
  | _, _ => False
theorem okKs_append : ∀ {l m : List Value} {a b : List Kt}, okKs Φ l a → okKs Φ m b → okKs Φ (l ++ m) (a ++ b)
  | [], m, [], b, _, h => h
  | v :: l, m, k :: a, b, h, h2 => ⟨h.1, okKs_append h.2 h2⟩
  | [], _, _ :: _, _, h, _ => h.elim
  | _ :: _, _, [], _, h, _ => h.elim
theorem okKs_get : ∀ {l : List Value} {a : List Kt}, okKs Φ l a → ∀ (j : Nat) (k : Kt), a[j]? = some k → ∃ v, l[j]? = some v ∧ okK Φ v k
  | _ :: l, _ :: a, h, 0, k, hk => by simp at hk; subst hk; exact ⟨_, rfl, h.1⟩
  | _ :: l, _ :: a, h, j + 1, k, hk => by simpa using okKs_get h.2 j k (by simpa using hk)
  | [], [], _, j, k, hk => by simp at hk
  | [], _ :: _, h, _, _, _ => h.elim
  | _ :: _, [], h, _, _, _ => h.elim
def fieldsK2 (f : TypeId → Option (List Kt)) : List Field → Nat → Option (List Kt)
  | [], _ => some []
  | fl :: l, o => if fl.offset = o then match f fl.type with
    | some a => match fieldsK2 f l (o + a.length) with
      | some b => some (a ++ b)
      | none => none
    | none => none
    else none
def repK2 (a : List Kt) : Nat → List Kt
  | 0 => []
  | n + 1 => a ++ repK2 a n
def kindsT2 (P : Program) : Nat → TypeId → Option (List Kt)
  | 0, _ => none
  | d + 1, t => match P.underlying t with
    | some (.int k) => some [.int k]
    | some .bool => some [.bool]
    | some (.slice _) => some [.other t]
    | some (.array n e) => match kindsT2 P d e with
      | some a => if a.length = P.cellsOf e ∧ P.cellsOf t = n * a.length then some (repK2 a n) else none
      | none => none
    | some (.struct fs) => match fieldsK2 (fun u => (kindsT2 P d u).bind fun a => if a.length = P.cellsOf u then some a else none) fs.toList 0 with
      | some a => if a.length = P.cellsOf t then some a else none
      | none => none
    | _ => none
section
variable {H : Type} {enc : TypeId × Value → H} {P : Program} {w : World} {base : Nat} {spare : Nat → Bool} {held : Bool}
theorem trod_fields2 {g : TypeId → Option (List Kt)} {cs : List Value} : ∀ (l : List Field) (o : Nat) (ks : List Kt), fieldsK2 g l o = some ks →
    (∀ (fl : Field) (a : List Kt), fl ∈ l → g fl.type = some a → okKs Φ ((cs.drop fl.offset).take a.length) a) → okKs Φ ((cs.drop o).take ks.length) ks
  | [], o, ks, h, _ => by cases h; simp [okKs]
  | fl :: l, o, ks, h, hq => by
    simp only [fieldsK2] at h
    split at h
    · rename_i ho; subst ho
      split at h
      · rename_i a ha
        split at h
        · rename_i b hb
          cases h
          have h1 := hq fl a (by simp) ha
          have h2 := trod_fields2 l (fl.offset + a.length) b hb fun f c hf hc => hq f c (List.mem_cons_of_mem _ hf) hc
          have e : (cs.drop fl.offset).take (a ++ b).length = (cs.drop fl.offset).take a.length ++ (cs.drop (fl.offset + a.length)).take b.length := by
            rw [List.length_append, List.take_add, List.drop_drop]
          rw [e]
          exact okKs_append h1 h2
        · cases h
      · cases h
    · cases h
theorem trod_reps2 {cs : List Value} {a : List Kt} : ∀ (n : Nat) (o : Nat), (∀ i, i < n → okKs Φ ((cs.drop (o + i * a.length)).take a.length) a) → okKs Φ ((cs.drop o).take (n * a.length)) (repK2 a n)
  | 0, o, _ => by simp [okKs, repK2]
  | n + 1, o, h => by
    have h0 := h 0 (by omega)
    simp only [Nat.zero_mul, Nat.add_zero] at h0
    have ih := trod_reps2 n (o + a.length) fun i hi => by
      have := h (i + 1) (by omega)
      rwa [Nat.add_mul, Nat.one_mul, Nat.add_comm (i * a.length), ← Nat.add_assoc] at this
    have e : (cs.drop o).take ((n + 1) * a.length) = (cs.drop o).take a.length ++ (cs.drop (o + a.length)).take (n * a.length) := by
      rw [Nat.add_mul, Nat.one_mul, Nat.add_comm (n * a.length), List.take_add, List.drop_drop]
    rw [e]
    exact okKs_append h0 ih
abbrev trodΦ (enc : TypeId × Value → H) (P : Program) (w : World) (base : Nat) (spare : Nat → Bool) (held : Bool) (v : Value) (t : TypeId) : Prop := (∃ e, P.underlying t = some (.slice e)) ∧ ∃ m x, DataW.trod enc P w base spare held m t [v] = some x
theorem trodΦ_sl : SlOK (trodΦ enc P w base spare held) := by
  rintro v t ⟨⟨e, hu⟩, m, x, hx⟩
  rcases open_slice hu hx with h0 | ⟨a, len, cap, m, n, D, Pl, hcs, _⟩
  · have h1 := h0.1
    simp only [List.cons.injEq, and_true] at h1
    exact ⟨none, 0, 0, h1⟩
  · simp only [List.cons.injEq, and_true] at hcs
    exact ⟨some a, len, cap, hcs⟩
theorem trod_kinds2 : ∀ (d : Nat) (t : TypeId) (ks : List Kt) (fuel : Nat) (cs : List Value) (x : DataW H × List MemPlace), kindsT2 P d t = some ks → DataW.trod enc P w base spare held fuel t cs = some x → okKs (trodΦ enc P w base spare held) cs ks := by
  intro d
  induction d with
  | zero => intro t ks fuel cs x h; cases h
  | succ d ih =>
    intro t ks fuel cs x h hx
    simp only [kindsT2] at h
    split at h
    · rename_i k hu
      cases h
      obtain ⟨n, rfl, _, hw⟩ := DataW.trod_int hu hx
      exact ⟨⟨n, rfl, hw⟩, trivial⟩
    · rename_i hu
      cases h
      obtain ⟨b, rfl, _⟩ := DataW.trod_bool hu hx
      exact ⟨⟨b, rfl⟩, trivial⟩
    · rename_i e hu
      cases h
      rcases open_slice hu hx with h0 | ⟨a, len, cap, m, n, D, Pl, hcs, _⟩
      · have h1 := h0.1
        subst h1
        exact ⟨⟨⟨_, hu⟩, fuel, x, hx⟩, trivial⟩
      · subst hcs
        exact ⟨⟨⟨_, hu⟩, fuel, x, hx⟩, trivial⟩
    · rename_i n e hu
      split at h
      · rename_i a ha
        split at h
        · rename_i hc
          cases h
          obtain ⟨xs, m, _, _, hl, hxl, hxi⟩ := DataW.trod_array hu hx
          have key := trod_reps2 (cs := cs) (a := a) n 0 fun i hi => by
            have h1 := hxi i hi
            rw [← hc.1, List.getElem?_eq_getElem (by omega)] at h1
            rw [Nat.zero_add]
            exact ih e a m _ _ ha h1
          rw [List.drop_zero, ← hc.2, ← hl, List.take_length] at key
          exact key
        · cases h
      · cases h
    · rename_i fs hu
      split at h
      · rename_i a ha
        split at h
        · rename_i hc
          cases h
          obtain ⟨xs, m, _, _, hl, hxl, hxi⟩ := DataW.trod_struct hu hx
          have key := trod_fields2 (cs := cs) fs.toList 0 ks ha fun fl b hfl hb => by
            obtain ⟨i, hi⟩ := List.getElem?_of_mem hfl
            have hi' : fs[i]? = some fl := by simpa using hi
            have h1 := hxi i fl hi'
            cases hk : kindsT2 P d fl.type with
            | none => simp [hk] at hb
            | some b' =>
              simp only [hk, Option.bind_some] at hb
              split at hb
              · rename_i hlen
                cases hb
                have hlt : i < xs.length := by rw [hxl]; exact (Array.getElem?_eq_some_iff.1 hi').1
                rw [← hlen, List.getElem?_eq_getElem hlt] at h1
                exact ih fl.type b m _ _ hk h1
              · cases hb
          rw [List.drop_zero, hc, ← hl, List.take_length] at key
          exact key
        · cases h
      · cases h
    · cases h
end
end Go.Ex
namespace Go.Sx
open Go Go.ChangeShapes Go.WideShapes Go.ChangeAt Go.RowKit Go.Deep
def ktKd : Ex.Kt → Kd
  | .int k => .int k
  | .bool => .bool
  | .other _ => .slice
theorem rowOK_kt {Φ : Value → TypeId → Prop} (hΦ : Ex.SlOK Φ) : ∀ {row : List Value} {ks : List Ex.Kt}, Ex.okKs Φ row ks → rowOK row (ks.map ktKd)
  | [], [], _ => trivial
  | v :: row, k :: ks, h => by
    refine ⟨?_, rowOK_kt hΦ h.2⟩
    have h1 := h.1
    cases k with
    | int k => obtain ⟨n, rfl, _⟩ := h1; simp [valIs, ktKd]
    | bool => obtain ⟨b, rfl⟩ := h1; rfl
    | other t => obtain ⟨a, l, c, rfl⟩ := hΦ v t h1; rfl
  | [], _ :: _, h => h.elim
  | _ :: _, [], h => h.elim
section
variable {H : Type} {enc : TypeId × Value → H} {P : Program} {W : World} {base : Nat} {spare : Nat → Bool} {held : Bool} {d : DataW H} {p : List MemPlace}
theorem rdRowsT {t e : TypeId} {ks : List Ex.Kt} {dp : Nat} (ht : P.underlying t = some (.slice e)) (hk : Ex.kindsT2 P dp e = some ks) (hC : P.cellsOf e = ks.length) (hks : 0 < ks.length) {v : Value} (hv : ∃ a l c, v = .slice a l c) (h : DataW.Trod enc P W base spare held t v d p) :
    ∃ rows, RdRows (Hl.all W) v (ks.map ktKd) rows ∧ ∀ row ∈ rows, Ex.okKs (Ex.trodΦ enc P W base spare held) row ks := by
  obtain ⟨a0, len0, cap0, rfl⟩ := hv
  obtain ⟨fuel, hf⟩ := h
  rcases open_slice ht hf with h | ⟨a, len, cap, m, n, D, Pl, hcs, hb, hl, hm, hmm, hx, hi⟩
  · have h := h.1
    simp only [Value.cells, List.cons.injEq, Value.slice.injEq, and_true] at h
    obtain ⟨rfl, rfl, rfl⟩ := h
    exact ⟨[], ⟨-1, 0, 0, rfl, by omega, Or.inl rfl⟩, fun _ h => nomatch h⟩
  · simp only [Value.cells, List.cons.injEq, Value.slice.injEq, and_true] at hcs
    obtain ⟨rfl, rfl, rfl⟩ := hcs
    have hlm : len0 ≤ m := by rw [hmm]; split <;> omega
    have each : ∀ i, i < len0 → ∃ row, row.length = ks.length ∧ Ex.okKs (Ex.trodΦ enc P W base spare held) row ks ∧ ∀ j, j < ks.length → W.cell? ((a.add (i * ks.length)).add j) = row[j]? := by
      intro i hil
      obtain ⟨cs', hc, ht'⟩ := hi i (by omega)
      rw [hC] at hc
      obtain ⟨_, hcl, hat⟩ := World.cells?_some hc
      exact ⟨cs', hcl, Ex.trod_kinds2 dp e ks n cs' _ hk ht', fun j hj => hat j hj⟩
    rcases Nat.eq_zero_or_pos len0 with h0 | h0
    · subst h0
      obtain ⟨x, y, hx, hy, _⟩ := slP_all (some a)
      exact ⟨[], ⟨x, y, cap0, by rw [hx]; rfl, hy, Or.inl rfl⟩, fun _ h => nomatch h⟩
    · have hsp : a.spot = none := by
        obtain ⟨row, hl', _, hc⟩ := each 0 h0
        have := hc 0 hks
        simp only [Nat.zero_mul, Addr.add, if_true] at this
        rw [List.getElem?_eq_getElem (by omega)] at this
        exact cell_spot this
      obtain ⟨blk, off, spot⟩ := a
      simp only at hsp
      subst hsp
      classical
      let row : Nat → List Value := fun i => if h : i < len0 then (each i h).choose else []
      have hrow : ∀ i, i < len0 → (row i).length = ks.length ∧ Ex.okKs (Ex.trodΦ enc P W base spare held) (row i) ks ∧ ∀ j, j < ks.length → W.cell? ⟨blk, off + i * ks.length + j, none⟩ = (row i)[j]? := by
        intro i hil
        have := (each i hil).choose_spec
        simp only [row, dif_pos hil]
        refine ⟨this.1, this.2.1, fun j hj => ?_⟩
        rw [← this.2.2 j hj, addr_add, addr_add]
      refine ⟨(List.range len0).map row, ⟨blk, off, cap0, ?_, by omega, Or.inr ⟨by omega, fun i r hr => ?_⟩⟩, fun r hr => ?_⟩
      · rw [slP_pos (by omega), List.length_map, List.length_range]; rfl
      · have hil : i < len0 := by have := (List.getElem?_eq_some_iff.1 hr).1; simpa using this
        rw [List.getElem?_map, List.getElem?_range hil, Option.map_some, Option.some.injEq] at hr
        subst hr
        obtain ⟨h1, h2, h3⟩ := hrow i hil
        refine ⟨rowOK_kt Ex.trodΦ_sl h2, fun j u hu => ?_⟩
        rw [Int.toNat_natCast, Int.toNat_natCast, List.length_map]
        have hj : j < ks.length := by rw [← h1]; exact (List.getElem?_eq_some_iff.1 hu).1
        exact all_cell (by rw [h3 j hj]; exact hu)
      · obtain ⟨i, hil, rfl⟩ := List.mem_map.1 hr
        exact (hrow i (List.mem_range.1 hil)).2.1
end
end Go.Sx
namespace Go.Proofs.YtomdimlnggpgbaaDoor.opP
open Go Go.Sx Go.ChangeShapes Go.WideShapes Go.ChangeAt Go.RowKit Go.Deep
def kh : List Ex.Kt := [.int .i64, .int .u64] ++ List.replicate 32 (.int .u8) ++ [.int .i64, .bool, .int .u64] ++ List.replicate 16 (.int .u8) ++ [.other 98] ++ List.replicate 6 (.int .u64) ++ List.replicate 32 (.int .u8) ++ [.int .i64] ++ List.replicate 32 (.int .u8)
def kp : List Ex.Kt := kh ++ [.other 30]
def kr : List Ex.Kt := [.int .u64, .int .i64, .int .i64] ++ List.replicate 6 (.int .u64) ++ [.other 51]
theorem kp_eq : Ex.kindsT2 Tryd.prog 6 102 = some kp := by kernel_rfl
theorem kr_eq : Ex.kindsT2 Tryd.prog 7 53 = some kr := by kernel_rfl
section
variable {H : Type} {enc : TypeId × Value → H} {W : World} {base b0 : Nat} {spare : Nat → Bool} {held : Bool} {r : Reach}
theorem tok16 : ∀ {n : Nat} {row : List Value}, okCs row (List.replicate n (Kd.int .u8)) → ∃ t : List Int, row = bys t ∧ t.length = n ∧ ∀ b ∈ t, 0 ≤ b ∧ b < 256
  | 0, [], _ => ⟨[], rfl, rfl, fun _ h => nomatch h⟩
  | n + 1, v :: row, h => by
    obtain ⟨t, e, hl, hb⟩ := tok16 (n := n) h.2
    obtain ⟨z, rfl, hw⟩ := h.1
    refine ⟨z :: t, by rw [e]; rfl, by rw [List.length_cons, hl], fun b hbm => ?_⟩
    rcases List.mem_cons.1 hbm with rfl | hbm
    · exact u8_wf hw
    · exact hb b hbm
theorem toks_of : ∀ {rows : List (List Value)}, (∀ row ∈ rows, okCs row tkd) → ∃ T : List (List Int), rows = T.map bys ∧ ∀ t ∈ T, t.length = 16 ∧ ∀ b ∈ t, 0 ≤ b ∧ b < 256
  | [], _ => ⟨[], rfl, fun _ h => nomatch h⟩
  | row :: rows, h => by
    obtain ⟨T, e, hT⟩ := toks_of (rows := rows) fun r hr => h r (List.mem_cons_of_mem _ hr)
    obtain ⟨t, e2, hl, hb⟩ := tok16 (n := 16) (h row (List.mem_cons_self ..))
    refine ⟨t :: T, by rw [e, e2]; rfl, fun x hx => ?_⟩
    rcases List.mem_cons.1 hx with rfl | hx
    · exact ⟨hl, hb⟩
    · exact hT x hx
theorem tokens_of {v : Value} (ho : Ex.trodΦ enc Tryd.prog W base spare held v 98) : ∃ (T : List (List Int)) (a : Option Addr) (c : Nat), v = .slice a T.length c ∧ RdRows (Hl.all W) v tkd (T.map bys) ∧ ∀ t ∈ T, t.length = 16 ∧ bytes256 t := by
  obtain ⟨a, l, c, rfl⟩ := Ex.trodΦ_sl v _ ho
  obtain ⟨_, m, x, hx⟩ := ho
  obtain ⟨rows, hR, hrows⟩ := rdRows_of Tryd.underlying98 (ks := tkd) (dp := 3) (by kernel_rfl) (by kernel_rfl) (by decide) ⟨a, l, c, rfl⟩ (d := x.1) (p := x.2) ⟨m, hx⟩
  obtain ⟨T, e, hT⟩ := toks_of hrows
  subst e
  have hl : l = (T.map bys).length := by
    obtain ⟨ax, ay, ac, ae, _⟩ := id hR
    simp only [Value.slice.injEq] at ae
    exact ae.2.1
  rw [List.length_map] at hl
  subst hl
  exact ⟨T, a, c, rfl, hR, hT⟩
theorem body_of {v : Value} (ho : Ex.trodΦ enc Tryd.prog W base spare held v 30) : ∃ (b : List Int) (a : Option Addr) (c : Nat), v = .slice a b.length c ∧ RdW (Hl.all W) v b ∧ bytes256 b := by
  obtain ⟨a, l, c, rfl⟩ := Ex.trodΦ_sl v _ ho
  obtain ⟨_, m, x, hx⟩ := ho
  obtain ⟨b, hR, hb⟩ := bytes_of Tryd.underlying30 (dp := 1) (by kernel_rfl) (by kernel_rfl) ⟨a, l, c, rfl⟩ (d := x.1) (p := x.2) ⟨m, hx⟩
  have hl : l = b.length := by
    obtain ⟨ax, ay, ac, ae, _⟩ := id hR
    simp only [Value.slice.injEq] at ae
    exact ae.2.1
  subst hl
  exact ⟨b, a, c, rfl, hR, hb⟩
theorem rng_of {Φ : Value → TypeId → Prop} (hΦ : Ex.SlOK Φ) : ∀ {row : List Value} {ks : List Ex.Kt}, Ex.okKs Φ row ks → ∀ v ∈ row, rngV v
  | [], [], _, _, h => nomatch h
  | x :: row, k :: ks, h, v, hv => by
    rcases List.mem_cons.1 hv with rfl | hv
    · have h1 := h.1
      cases k with
      | int k =>
        obtain ⟨n, rfl, hw⟩ := h1
        cases k with
        | u8 => exact u8_wf hw
        | u64 => exact u64_wf hw
        | i64 => exact i64_wf hw
        | _ => trivial
      | bool => obtain ⟨b, rfl⟩ := h1; trivial
      | other t => obtain ⟨a, l, c, rfl⟩ := hΦ _ t h1; trivial
    · exact rng_of hΦ h.2 v hv
  | [], _ :: _, h, _, _ => h.elim
  | _ :: _, [], h, _, _ => h.elim
theorem okKs_take {Φ : Value → TypeId → Prop} : ∀ {n : Nat} {l : List Value} {ks : List Ex.Kt}, Ex.okKs Φ l ks → Ex.okKs Φ (l.take n) (ks.take n)
  | 0, _, _, _ => trivial
  | _ + 1, [], [], _ => trivial
  | n + 1, _ :: _, _ :: _, h => ⟨h.1, okKs_take (n := n) h.2⟩
  | _ + 1, [], _ :: _, h => h.elim
  | _ + 1, _ :: _, [], h => h.elim
theorem slN_at {row : List Value} {k n c : Nat} {a : Option Addr} (h : row[k]? = some (.slice a n c)) : slN row k = n := by unfold slN; rw [h]
theorem hd_of {row : List Value} (ho : Ex.okKs (Ex.trodΦ enc Tryd.prog W base spare held) row kh) (h20 : slN row 53 ≤ 20) : ∃ h, IsHd (Hl.all W) row h ∧ h.t.length ≤ 20 := by
  have hok : rowOK row hkd := by
    have := rowOK_kt Ex.trodΦ_sl ho
    rwa [show kh.map ktKd = hkd by kernel_rfl] at this
  obtain ⟨v, hv, ho53⟩ := Ex.okKs_get ho 53 (.other 98) rfl
  obtain ⟨T, a, c, rfl, hR, hT⟩ := tokens_of ho53
  rw [slN_at hv] at h20
  refine ⟨⟨row.set 53 noV, T⟩, ⟨hok, rng_of Ex.trodΦ_sl ho, rfl, ?_, by show T.length ≤ _; omega, hT⟩, h20⟩
  rw [List.getD_eq_getElem?_getD, hv]
  exact hR
theorem pc_of {row : List Value} (ho : Ex.okKs (Ex.trodΦ enc Tryd.prog W base spare held) row kp) (h20 : slN row 53 ≤ 20) (h21 : slN row 125 ≤ 2100) : ∃ c, IsPc (Hl.all W) (Hl.all W) row c ∧ c.h.t.length ≤ 20 ∧ c.b.length ≤ 2100 := by
  have hok : rowOK row pkd := by
    have := rowOK_kt Ex.trodΦ_sl ho
    rwa [show kp.map ktKd = pkd by kernel_rfl] at this
  have h1 : Ex.okKs (Ex.trodΦ enc Tryd.prog W base spare held) (row.take 125) kh := by
    have := okKs_take (n := 125) ho
    rwa [show kp.take 125 = kh by kernel_rfl] at this
  have e53 : slN (row.take 125) 53 = slN row 53 := by unfold slN; rw [List.getElem?_take_of_lt (by omega)]
  obtain ⟨h, hx, hh⟩ := hd_of h1 (by rw [e53]; exact h20)
  obtain ⟨v, hv, ho125⟩ := Ex.okKs_get ho 125 (.other 30) rfl
  obtain ⟨b, a, c, rfl, hR, hb⟩ := body_of ho125
  rw [slN_at hv] at h21
  refine ⟨⟨h, b⟩, ⟨hok, hx, ?_, hb, by show b.length ≤ _; omega⟩, hh, h21⟩
  rw [List.getD_eq_getElem?_getD, hv]
  exact hR
theorem rp_of {row : List Value} (ho : Ex.okKs (Ex.trodΦ enc Tryd.prog W base spare held) row kr) : rowOK row rkd ∧ (∀ v ∈ row, rngV v) ∧ ∃ rows, RdRows (Hl.all W) (row.getD 9 noV) pkd rows ∧ ∀ prow ∈ rows, slN prow 53 ≤ 20 → slN prow 125 ≤ 2100 → ∃ c, IsPc (Hl.all W) (Hl.all W) prow c := by
  have hok : rowOK row rkd := by
    have := rowOK_kt Ex.trodΦ_sl ho
    rwa [show kr.map ktKd = rkd by kernel_rfl] at this
  refine ⟨hok, rng_of Ex.trodΦ_sl ho, ?_⟩
  obtain ⟨v, hv, ho9⟩ := Ex.okKs_get ho 9 (.other 51) rfl
  obtain ⟨a, l, c, rfl⟩ := Ex.trodΦ_sl v _ ho9
  obtain ⟨_, m, x, hx⟩ := ho9
  obtain ⟨rows, hR, hrows⟩ := rdRowsT Tryd.underlying51 (ks := kp) (dp := 6) kp_eq (by kernel_rfl) (of_decide_eq_true (by kernel_rfl)) ⟨a, l, c, rfl⟩ (d := x.1) (p := x.2) ⟨m, hx⟩
  rw [show kp.map ktKd = pkd by kernel_rfl] at hR
  rw [List.getD_eq_getElem?_getD, hv]
  exact ⟨rows, hR, fun prow hp h1 h2 => by obtain ⟨c, hc, _⟩ := pc_of (hrows prow hp) h1 h2; exact ⟨c, hc⟩⟩
end
section
variable {H : Type} {enc : TypeId × Value → H} {W : World} {base : Nat} {spare : Nat → Bool} {held : Bool} {d : DataW H} {p : List MemPlace}
end
def lpin : List (String × DataW Unit) := [("unicode/utf8.acceptRanges", Rows.laid_unicode_utf8_acceptRanges), ("unicode/utf8.first", Rows.laid_unicode_utf8_first)]
end Go.Proofs.YtomdimlnggpgbaaDoor.opP
