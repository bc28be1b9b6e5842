/- vector.Order, as a contract. Condition: at most 1000 headers, of at most 20 tokens each. -/
import Derived.Test.YtnlejejjeilpoaaVfE
set_option linter.unusedSimpArgs false
set_option linter.unusedVariables false
set_option linter.constructorNameAsVariable false
namespace Go.Proofs.Ytnlejejjeilpoaa.V2
open Go Go.Sx

def orderS : Sx.Spec where
  fn := 18
  own := []
  rd := [1, 100]
  res := [.one .sl, .agg v6s]
  pre := fun xs Hs Rs => ∃ v u R1 R2 rows hs, xs = [vecV v, u] ∧ Rs = [R1, R2] ∧ v.length = 6 ∧ RdRows R1 u hkd rows ∧ HdAll R2 rows hs ∧ rows.length ≤ 1000
  post := fun xs Hs Rs r Hs' F => ∃ v u R1 R2 rows hs s out outRows v', xs = [vecV v, u] ∧ Rs = [R1, R2] ∧ v.length = 6 ∧ RdRows R1 u hkd rows ∧ HdAll R2 rows hs ∧ r = .tuple #[s, vecV v'] ∧ Comes hs v out v' ∧ hs.filter (readyB v') = [] ∧ RdRows F s hkd outRows ∧ HdAll F outRows out
def orderNd : Nd := .ext (.alloc 12) (.ext (.alloc 13) (.and (.inv 0 (([⟨20, 0, .int .i64 (.lit (-1))⟩, ⟨22, 0, .int .i64 (.lit 0)⟩, ⟨23, 0, .int .i64 (.lit 0)⟩] : List As) ++ (mLd 14 (Sx.ckCVs 24 v6s) (Sx.ckCVs 0 v6s))) [(30, none)]) (.havoc 0 0 14 (.and (.e (.le (.lit 0) (.var 8))) (.and (.inv 1 [⟨40, 0, .int .i64 (.lit (-1))⟩, ⟨42, 0, .int .i64 (.lit 0)⟩, ⟨43, 0, .int .i64 (.lit 0)⟩, ⟨44, 0, .int .i64 (.lit 0)⟩] [(45, none)]) (.havoc 1 1 31 (.and (.imp (.lt (.var 44) (.var 8)) (.and (.e (.le (.lit 0) (.var 6))) (.and (.e (.le (.lit 0) (.var 7))) (.and (.e (.le (.lit 0) (.var 44))) (.and (.e (.hks 10 (.var 6) (.add (.var 7) (.mul (.var 44) (.lit 125))) hkd)) (.ext (.alloc 50) (.and (.pre (.call 0 51 [.sv (.agg (Sx.ckCVs 24 v6s)), .sv (.agg (romCells 10 (.var 6) (.add (.var 7) (.mul (.var 44) (.lit 125))) 0 hkd))] [] [.ro 11 [] true])) (.ext (.call 0 51 [.sv (.agg (Sx.ckCVs 24 v6s)), .sv (.agg (romCells 10 (.var 6) (.add (.var 7) (.mul (.var 44) (.lit 125))) 0 hkd))] [] [.ro 11 [] true]) (.and (.imp (.bvar 51) (.ext (.alloc 52) (.and (.pre (.app 53 37 125 232 (.sl (.var 40) (.lit 0) (.var 42) (.var 43)) (.var 42) (.hp 45 [] [.var 40] []) (.cvs (romCells 10 (.var 6) (.add (.var 7) (.mul (.var 44) (.lit 125))) 0 hkd) 1))) (.ext (.app 53 37 125 232 (.sl (.var 40) (.lit 0) (.var 42) (.var 43)) (.var 42) (.hp 45 [] [.var 40] []) (.cvs (romCells 10 (.var 6) (.add (.var 7) (.mul (.var 44) (.lit 125))) 0 hkd) 1)) (.back 1 1 [⟨40, 0, .int .i64 (.var 53)⟩, ⟨42, 0, .int .i64 (.add (.var 42) (.lit 1))⟩, ⟨43, 0, .int .i64 (.var 54)⟩, ⟨44, 0, .int .i64 (.wrap .i64 (.add (.var 44) (.lit 1)))⟩] [(45, some 53)]))))) (.imp (.not (.bvar 51)) (.back 1 1 [⟨40, 0, .int .i64 (.var 40)⟩, ⟨42, 0, .int .i64 (.var 42)⟩, ⟨43, 0, .int .i64 (.var 43)⟩, ⟨44, 0, .int .i64 (.wrap .i64 (.add (.var 44) (.lit 1)))⟩] [(45, some 45)]))))))))))) (.imp (.not (.lt (.var 44) (.var 8))) (.and (.e (.le (.lit 0) (.var 42))) (.and (.imp (.eq (.var 42) (.lit 0)) (.post [.ro 10 [.var 6] false, .ro 11 [] true, .dead, .dead, .hp 30 [] [.var 20] [], .hp 45 [] [.var 40] []] (.tup [.one (.sl (.var 20) (.lit 0) (.var 22) (.var 23)), .agg (Sx.ckCVs 24 v6s)]))) (.imp (.not (.eq (.var 42) (.lit 0))) (.ext (.alloc 50) (.and (.imp (.lt (.var 42) (.lit 1)) (.e .ff)) (.imp (.not (.lt (.var 42) (.lit 1))) (.and (.e (.le (.lit 0) (.var 40))) (.and (.e (.hks 45 (.var 40) (.lit 0) hkd)) (.ext (.alloc 51) (.and (.inv 2 (([⟨60, 0, .int .i64 (.lit 1)⟩] : List As) ++ (mLd 52 (Sx.ckCVs 70 hk2) (romCells 45 (.var 40) (.lit 0) 0 hkd))) []) (.havoc 1 2 52 (.and (.imp (.lt (.var 60) (.var 42)) (.and (.e (.le (.lit 0) (.var 60))) (.and (.e (.hks 45 (.var 40) (.mul (.var 60) (.lit 125)) hkd)) (.and (.pre (.call 1 200 [.sv (.agg (romCells 45 (.var 40) (.mul (.var 60) (.lit 125)) 0 hkd)), .sv (.agg (Sx.ckCVs 70 hk2))] [] [])) (.ext (.call 1 200 [.sv (.agg (romCells 45 (.var 40) (.mul (.var 60) (.lit 125)) 0 hkd)), .sv (.agg (Sx.ckCVs 70 hk2))] [] []) (.and (.imp (.lt (.var 200) (.lit 0)) (.back 1 2 (([⟨60, 0, .int .i64 (.wrap .i64 (.add (.var 60) (.lit 1)))⟩] : List As) ++ (mLd 52 (Sx.ckCVs 70 hk2) (romCells 45 (.var 40) (.mul (.var 60) (.lit 125)) 0 hkd))) [])) (.imp (.not (.lt (.var 200) (.lit 0))) (.back 1 2 (([⟨60, 0, .int .i64 (.wrap .i64 (.add (.var 60) (.lit 1)))⟩] : List As) ++ (mLd 52 (Sx.ckCVs 70 hk2) (Sx.ckCVs 70 hk2))) [])))))))) (.imp (.not (.lt (.var 60) (.var 42))) (.ext (.alloc 200) (.and (.pre (.call 2 201 [.sv (.one (.sl (.var 123) (.var 124) (.var 125) (.var 126)))] [] [.ro 11 [] true])) (.ext (.call 2 201 [.sv (.one (.sl (.var 123) (.var 124) (.var 125) (.var 126)))] [] [.ro 11 [] true]) (.ext (.alloc 205) (.ext (.mrg 206 (.hp 30 [] [.var 20] []) (.hp 201 [] [.var 201] [])) (.and (.pre (.app 207 37 125 232 (.sl (.var 20) (.lit 0) (.var 22) (.var 23)) (.var 22) (.hp 206 [30, 201] [.var 20, .var 201, .var 201] []) (.cvs (Sx.ckCVs 70 hA ++ [.sl (.var 201) (.var 202) (.var 203) (.var 204)] ++ Sx.ckCVs 127 hB) 1))) (.ext (.app 207 37 125 232 (.sl (.var 20) (.lit 0) (.var 22) (.var 23)) (.var 22) (.hp 206 [30, 201] [.var 20, .var 201, .var 201] []) (.cvs (Sx.ckCVs 70 hA ++ [.sl (.var 201) (.var 202) (.var 203) (.var 204)] ++ Sx.ckCVs 127 hB) 1)) (.and (.e (.le (.lit 0) (.wrap .i64 (.sub (.var 70) (.lit 1))))) (.and (.e (.lt (.wrap .i64 (.sub (.var 70) (.lit 1))) (.lit 6))) (.and (.e (.and (.le (.lit 0) (.wrap .i64 (.sub (.var 70) (.lit 1)))) (.lt (.wrap .i64 (.sub (.var 70) (.lit 1))) (.lit 6)))) (.back 0 0 (([⟨20, 0, .int .i64 (.var 207)⟩, ⟨22, 0, .int .i64 (.add (.var 22) (.lit 1))⟩, ⟨23, 0, .int .i64 (.var 208)⟩] : List As) ++ (mLd 14 (Sx.ckCVs 24 v6s) [.int .u64 (.ite (.eq (.wrap .i64 (.sub (.var 70) (.lit 1))) (.lit 0)) (.var 71) (.var 24)), .int .u64 (.ite (.eq (.wrap .i64 (.sub (.var 70) (.lit 1))) (.lit 1)) (.var 71) (.var 25)), .int .u64 (.ite (.eq (.wrap .i64 (.sub (.var 70) (.lit 1))) (.lit 2)) (.var 71) (.var 26)), .int .u64 (.ite (.eq (.wrap .i64 (.sub (.var 70) (.lit 1))) (.lit 3)) (.var 71) (.var 27)), .int .u64 (.ite (.eq (.wrap .i64 (.sub (.var 70) (.lit 1))) (.lit 4)) (.var 71) (.var 28)), .int .u64 (.ite (.eq (.wrap .i64 (.sub (.var 70) (.lit 1))) (.lit 5)) (.var 71) (.var 29))])) [(30, some 207)]))))))))))))))))))))))))))))))))
noncomputable def oΓ : List Sx.Spec := [readyS [100], firstS, cloneS]
theorem oΓ_ok : ∀ t ∈ oΓ, t.OK Try.prog := fun t ht => by
  simp only [oΓ, List.mem_cons, List.mem_nil_iff, or_false] at ht
  rcases ht with rfl | rfl | rfl
  · exact readyS_ok rfl
  · exact firstS_ok
  · exact cloneS_ok
theorem og0 : oΓ[0]? = some (readyS [100]) := rfl
theorem og1 : oΓ[1]? = some firstS := rfl
theorem og2 : oΓ[2]? = some cloneS := rfl
theorem orr0 : (readyS [100]).res = [.one .bool] := rfl
theorem orr1 : firstS.res = [.one (.int .i64)] := rfl
theorem orr2 : cloneS.res = [.one .sl] := rfl
theorem oc2 : (cpRoots 0 [Cp.one Ck.sl] ≠ []) = True := by simp [cpRoots, Cp.roots, Ck.root]
noncomputable def orderW : Walk Try.prog oΓ orderS.fn where
  Λ := fun p => if eqN p [18, 1, 1, 0] then some ⟨0, [(6, .sv (.one (.sl (.var 20) (.lit 0) (.var 22) (.var 23))))], [(2, .blk 12 (Sx.ckCVs 24 v6s) 24), (4, .hp 30 [] [.var 20] [])], 31⟩
    else if eqN p [18, 1, 1, 0, 0, 0, 1, 0, 1, 0] then some ⟨1, [(7, .sv (.one (.sl (.var 40) (.lit 0) (.var 42) (.var 43)))), (13, TI .i64 (.var 44))], [(5, .hp 45 [] [.var 40] [])], 50⟩
    else if eqN p [26, 1, 1, 1, 0, 1, 0] then some ⟨2, [(6, TI .i64 (.var 60))], [(7, .blk 51 (Sx.ckCVs 70 hk2) 37)], 200⟩ else none
  args := [.sv (.agg (Sx.ckCVs 0 v6s)), .sv (.one (.sl (.var 6) (.var 7) (.var 8) (.var 9)))]
  mem := [.ro 10 [.var 6] false, .ro 11 [] true]
  nv := 12
  nd := orderNd
  ok := by kernel_rfl
theorem own_rows {A : Hl} {e : TypeId} {ks : List Kd} {x l c : Int} {rows : List (List Value)} (h : OwR A e ks (.slice (slP x 0) l.toNat c.toNat) rows) (hx : -1 ≤ x) {i : Nat} {row : List Value} (hr : rows[i]? = some row) :
    0 ≤ x ∧ rowOK row ks ∧ ∀ j u, row[j]? = some u → A.cell x.toNat (i * ks.length + j) = some u := by
  obtain ⟨ax, ay, ac, ae, hay, har⟩ := h.rd
  rcases har with har | ⟨h0, har⟩
  · rw [har] at hr; simp at hr
  · simp only [Value.slice.injEq] at ae
    obtain ⟨e1, e2⟩ := slP_inj (by omega) hay hx (Int.le_refl 0) ae.1.symm
    have e2 := e2 h0
    subst e1; subst e2
    obtain ⟨a, b⟩ := har i row hr
    refine ⟨h0, a, fun j u hu => ?_⟩
    have := b j u hu
    rw [show (0 : Int).toNat + i * ks.length + j = i * ks.length + j by simp] at this
    exact this
theorem minOf_take {m h : Hd} {rest : List Hd} {j : Nat} (hj : rest[j]? = some h) : minOf m (rest.take (j + 1)) = pick (minOf m (rest.take j)) h := by
  unfold minOf
  rw [List.take_add_one, hj, Option.toList_some, List.foldl_append]
  rfl
theorem take_ready {hs : List Hd} {v : List Int} {k : Nat} {h : Hd} (hh : hs[k]? = some h) : (hs.take (k + 1)).filter (readyB v) = (hs.take k).filter (readyB v) ++ (if readyB v h = true then [h] else []) := by
  rw [List.take_add_one, hh, Option.toList_some, List.filter_append]
  congr 1
  rw [List.filter_cons]
  split <;> rfl
theorem ownsH_un {a b : Hl} {e : TypeId} {sz n : Nat} {v : Value} {xs : List Value} (h : OwnsH a e sz v n xs) : OwnsH (a.un b) e sz v n xs := by
  obtain ⟨hl, h⟩ := h
  refine ⟨hl, h.imp id fun ⟨g, cap, cur, e1, hg, r⟩ => ⟨g, cap, cur, e1, Hl.un_at_left hg, r⟩⟩
theorem un_right {a b : Hl} (hd : a.dis b) : b.le (a.un b) := fun k o h => by
  rw [Hl.un_at_right fun hm => hd k ⟨hm, by unfold Hl.mem; rw [h]; rfl⟩]; exact h
theorem set53 (q : Env) (n : Nat) (u : Value) : (rowN q n).set 53 u = (Sx.ckCVs n hA).map (CV.ev q) ++ (u :: (Sx.ckCVs (n + 57) hB).map (CV.ev q)) := by
  rw [rowN_eq, List.set_append, if_neg (by rw [hA_len2]; decide), hA_len2]
  rfl
def vecM (q : Env) : List Int := [if IntKind.i64.wrap (q.i 70 - 1) = 0 then q.i 71 else q.i 24, if IntKind.i64.wrap (q.i 70 - 1) = 1 then q.i 71 else q.i 25, if IntKind.i64.wrap (q.i 70 - 1) = 2 then q.i 71 else q.i 26, if IntKind.i64.wrap (q.i 70 - 1) = 3 then q.i 71 else q.i 27, if IntKind.i64.wrap (q.i 70 - 1) = 4 then q.i 71 else q.i 28, if IntKind.i64.wrap (q.i 70 - 1) = 5 then q.i 71 else q.i 29]
theorem vecM_bump {q : Env} {b : Hd} (h0 : q.i 70 = b.w) (h1 : q.i 71 = b.seq) (hw : 1 ≤ b.w ∧ b.w ≤ 6) : vecM q = bump (vecQ q 24) b := by
  unfold vecM bump vecQ
  rw [h0, h1, wrap_i64 (by omega) (by omega)]
  rcases (by omega : b.w = 1 ∨ b.w = 2 ∨ b.w = 3 ∨ b.w = 4 ∨ b.w = 5 ∨ b.w = 6) with e | e | e | e | e | e <;> rw [e] <;> rfl
theorem agg_inj {l m : List Value} (h : Value.agg l.toArray = .agg m.toArray) : l = m := by simpa using h
def oA0 : List As := ([⟨20, 0, .int .i64 (.lit (-1))⟩, ⟨22, 0, .int .i64 (.lit 0)⟩, ⟨23, 0, .int .i64 (.lit 0)⟩] : List As) ++ (mLd 14 (Sx.ckCVs 24 v6s) (Sx.ckCVs 0 v6s))
def oA2 : List As := ([⟨60, 0, .int .i64 (.lit 1)⟩] : List As) ++ (mLd 52 (Sx.ckCVs 70 hk2) (romCells 45 (.var 40) (.lit 0) 0 hkd))
def oA3 : List As := ([⟨60, 0, .int .i64 (.wrap .i64 (.add (.var 60) (.lit 1)))⟩] : List As) ++ (mLd 52 (Sx.ckCVs 70 hk2) (romCells 45 (.var 40) (.mul (.var 60) (.lit 125)) 0 hkd))
def oA4 : List As := ([⟨60, 0, .int .i64 (.wrap .i64 (.add (.var 60) (.lit 1)))⟩] : List As) ++ (mLd 52 (Sx.ckCVs 70 hk2) (Sx.ckCVs 70 hk2))
def oM : List CV := [.int .u64 (.ite (.eq (.wrap .i64 (.sub (.var 70) (.lit 1))) (.lit 0)) (.var 71) (.var 24)), .int .u64 (.ite (.eq (.wrap .i64 (.sub (.var 70) (.lit 1))) (.lit 1)) (.var 71) (.var 25)), .int .u64 (.ite (.eq (.wrap .i64 (.sub (.var 70) (.lit 1))) (.lit 2)) (.var 71) (.var 26)), .int .u64 (.ite (.eq (.wrap .i64 (.sub (.var 70) (.lit 1))) (.lit 3)) (.var 71) (.var 27)), .int .u64 (.ite (.eq (.wrap .i64 (.sub (.var 70) (.lit 1))) (.lit 4)) (.var 71) (.var 28)), .int .u64 (.ite (.eq (.wrap .i64 (.sub (.var 70) (.lit 1))) (.lit 5)) (.var 71) (.var 29))]
theorem oM_ev (q : Env) : (SV.agg oM).ev q = vecV (vecM q) := by
  unfold oM vecM vecV
  simp only [SV.ev, List.map_cons, List.map_nil, CV.ev, iev_ite, bT_eq, iev_wrap, iev_sub, iev_var, iev_lit]
def oA5 : List As := ([⟨20, 0, .int .i64 (.var 207)⟩, ⟨22, 0, .int .i64 (.add (.var 22) (.lit 1))⟩, ⟨23, 0, .int .i64 (.var 208)⟩] : List As) ++ (mLd 14 (Sx.ckCVs 24 v6s) oM)
def rowsL (q : Env) (a l c : Nat) : Value := .slice (slP (q.i a) 0) (q.i l).toNat (q.i c).toNat
noncomputable def ordInv (v : List Int) (R2 : Hl) (rows : List (List Value)) (hs : List Hd) : Nat → Env → Prop
  | 0, q => ∃ out outRows, Comes hs v out (vecQ q 24) ∧ q.i 22 = (out.length : Int) ∧ -1 ≤ q.i 20 ∧ 0 ≤ q.i 23 ∧ OwR (q.h 30) 37 hkd (rowsL q 20 22 23) outRows ∧ HdAll (q.h 30) outRows out ∧ Apart (rowsL q 20 22 23).ownBlock outRows out
  | 1, q => ∃ (k : Nat) (rr : List (List Value)), q.i 44 = k ∧ k ≤ rows.length ∧ q.i 42 = (rr.length : Int) ∧ rr.length ≤ k ∧ -1 ≤ q.i 40 ∧ 0 ≤ q.i 43 ∧ OwR (q.h 45) 37 hkd (rowsL q 40 42 43) rr ∧ HdAll R2 rr ((hs.take k).filter (readyB (vecQ q 24)))
  | _, q => ∃ (k : Nat) (rr : List (List Value)) (m : Hd) (rest : List Hd), q.i 60 = k ∧ 1 ≤ k ∧ k ≤ rr.length ∧ OwR (q.h 45) 37 hkd (rowsL q 40 42 43) rr ∧ HdAll R2 rr (m :: rest) ∧ IsHd R2 (rowN q 70) (minOf m (rest.take (k - 1)))
set_option maxRecDepth 20000 in
set_option maxHeartbeats 4000000 in
theorem orderS_ok : orderS.OK Try.prog := by
  refine Spec.of_fn (Γ := oΓ) oΓ_ok ?_
  rintro xs Hs Rs hl1 hl2 ⟨vv, u, R1, R2, rows, hs, rfl, rfl, hv6, hRd, hAll, h1000⟩
  have e0 : Hs = [] := List.length_eq_zero_iff.1 hl1
  subst e0
  match vv, hv6 with
  | [a0, a1, a2, a3, a4, a5], _ =>
  obtain ⟨x, y, c, rfl, hy, hrows⟩ := id hRd
  refine ⟨orderW, envI [a0, a1, a2, a3, a4, a5, x, y, rows.length, c] false [Hl.none, Hl.none, Hl.none, Hl.none, Hl.none, Hl.none, Hl.none, Hl.none, Hl.none, Hl.none, R1, R2], ordInv [a0, a1, a2, a3, a4, a5] R2 rows hs, fun j q => if j = 0 then cnt hs (vecQ q 24) else if j = 1 then (rows.length - q.i 44).toNat else (q.i 42 - q.i 60).toNat, ?_, ⟨?_, ?_, ?_, ?_⟩, (fun _ h => nomatch h), ?_⟩
  · show [vecV [a0, a1, a2, a3, a4, a5], Value.slice (slP x y) ((rows.length : Int)).toNat ((c : Int)).toNat] = _
    rw [Int.toNat_natCast, Int.toNat_natCast]
  · intro r hr ho; simp [orderW] at hr; rcases hr with rfl | rfl <;> cases ho
  · intro r hr ho; simp [orderW] at hr
    rcases hr with rfl | rfl
    · exact ⟨R1, by simp, Hl.le_refl _⟩
    · exact ⟨R2, by simp, Hl.le_refl _⟩
  · simp [orderW, Res.own]
  · intro r hr; simp [orderW] at hr; rcases hr with rfl | rfl <;> trivial
  · show Nd.holds _ _ _ orderNd
    unfold orderNd
    generalize hρ : envI [a0, a1, a2, a3, a4, a5, x, y, rows.length, c] false [Hl.none, Hl.none, Hl.none, Hl.none, Hl.none, Hl.none, Hl.none, Hl.none, Hl.none, Hl.none, R1, R2] = ρ
    have v0 : vecQ ρ 0 = [a0, a1, a2, a3, a4, a5] := by rw [← hρ]; rfl
    have v6 : ρ.i 6 = x := by rw [← hρ]; rfl
    have v7 : ρ.i 7 = y := by rw [← hρ]; rfl
    have v8 : ρ.i 8 = rows.length := by rw [← hρ]; rfl
    have w10 : ρ.h 10 = R1 := by rw [← hρ]; rfl
    have w11 : ρ.h 11 = R2 := by rw [← hρ]; rfl
    clear hρ
    generalize hV : [a0, a1, a2, a3, a4, a5] = V at *
    have hV6 : V.length = 6 := by rw [← hV]; rfl
    simp only [Nd.holds, X.pre, X.rel, X.n, Src.ok, Src.len, Src.vals, true_and, and_true, if_true, Nat.mul_one, Nat.add_zero, Nat.reduceAdd, List.length_cons, List.length_nil, bT_tt, bT_ff, bT_bvar, bT_not, bT_and, bT_or, bT_ite, bT_lt, bT_le, bT_eq, bT_beq, bT_seq, bT_hB, bT_his, bT_hby, bT_hism, bT_hks, iev_lit, iev_var, iev_add, iev_sub, iev_mul, iev_wrap, iev_ite, iev_hI, iev_hP, iev_hmlen, sev_ite, sev_slit, sev_sof, sev_svar, TV.ev, SV.ev, CV.ev, List.map_cons, List.map_nil, Res.hl, cpTV, Cp.sv, Ck.cv, cpSVs, Cp.len, Ck.len, newHs_zero, newHs_one, roots_ne, og0, og1, og2, orr0, orr1, orr2, oc2]
    intro q1 g1 _ q2 g2 _
    have vag : ∀ {q q' : Env} {n m : Nat}, Agree m q q' → n + 6 ≤ m → vecQ q' n = vecQ q n := by
      intro q q' n m a h
      unfold vecQ
      rw [a.i n (by omega), a.i (n + 1) (by omega), a.i (n + 2) (by omega), a.i (n + 3) (by omega), a.i (n + 4) (by omega), a.i (n + 5) (by omega)]
    have P2 : Agree 12 ρ q2 := g1.trans (g2.mono (by omega))
    refine ⟨?_, fun q g hI => ?_⟩
    · show ordInv V R2 rows hs 0 (assign q2 oA0 [(30, none)])
      have hg : goodA 14 oA0 [(30, none)] = true := by kernel_rfl
      have est : (SV.agg (Sx.ckCVs 24 v6s)).ev (assign q2 oA0 [(30, none)]) = (SV.agg (Sx.ckCVs 0 v6s)).ev q2 := assign_ag (n0 := 14) (ρ := q2) (A := oA0) (hs := [(30, none)]) (l := Sx.ckCVs 24 v6s) (m := Sx.ckCVs 0 v6s) hg (by kernel_rfl) (fun y hy => List.mem_append_right _ hy)
      have est : vecQ (assign q2 oA0 [(30, none)]) 24 = vecQ q2 0 := vecV_inj est
      rw [vag P2 (by omega), v0] at est
      exact ⟨[], [], by rw [est]; exact Comes.nil _, rfl, Int.le_refl _, Int.le_refl _, OwR.nil _ _ _, HdAll.nil _, fun i row h hr => by simp at hr⟩
    obtain ⟨out, outRows, hC, i22, i20, i23, hO, hOa, hAp⟩ := hI
    have P : Agree 12 ρ q := P2.trans (g.mono (by omega))
    have hlen := hC.few hV6
    obtain ⟨hv'6, hcnt⟩ := hC.length hV6
    have hhs : rows.length = hs.length := hAll.1
    rw [P.i 8 (by omega), v8]
    refine ⟨by omega, ⟨0, [], rfl, Nat.zero_le _, rfl, Nat.le_refl _, Int.le_refl _, Int.le_refl _, ?_, HdAll.nil R2⟩, fun qa ga hIa => ?_⟩
    · show OwR (Hl.none) _ _ (.slice (slP (-1) 0) (Int.toNat 0) (Int.toNat 0)) []
      exact OwR.nil _ _ _
    obtain ⟨k, rr, i44, hk, i42, hrk, i40, i43, hRR, hRa⟩ := hIa
    have Pa : Agree 12 ρ qa := P.trans (ga.mono (by omega))
    have ev : vecQ qa 24 = vecQ q 24 := vag ga (by omega)
    rw [ev] at hRa
    rw [Pa.i 6 (by omega), v6, Pa.i 7 (by omega), v7, Pa.h 10 (by omega), w10, i44]
    have q8 : qa.i 8 = rows.length := by rw [Pa.i 8 (by omega), v8]
    rw [q8]
    refine ⟨fun hlt => ?_, fun hge => ?_⟩
    · obtain ⟨row, hrow⟩ : ∃ r, rows[k]? = some r := ⟨_, List.getElem?_eq_getElem (by omega)⟩
      rcases hrows with hr0 | ⟨hx0, hr⟩
      · rw [hr0] at hrow; simp at hrow
      obtain ⟨hok, hc⟩ := hr k row hrow
      obtain ⟨h, hh, xh⟩ := hAll.at hrow
      have hc' : ∀ i u, row[i]? = some u → R1.cell x.toNat ((y + (k : Int) * 125).toNat + i) = some u := fun i u hu => by
        rw [← hc i u hu, hkd_len]; congr 1; omega
      refine ⟨hx0, hy, by omega, rowIs_of _ hok hc', fun q3 g3 _ => ?_⟩
      have erow : ∀ q', Agree 50 qa q' → List.map (CV.ev q') (romCells 10 (.var 6) (.add (.var 7) (.mul (.var 44) (.lit 125))) 0 hkd) = row := by
        intro q' a
        refine romCells_row row hkd 0 hok fun i u hu => ?_
        have Pq : Agree 12 ρ q' := Pa.trans (a.mono (by omega))
        simp only [iev_var, iev_add, iev_mul, iev_lit]
        rw [Pq.h 10 (by omega), w10, Pq.i 6 (by omega), v6, Pq.i 7 (by omega), v7, a.i 44 (by omega), i44, Nat.zero_add]
        exact hc' i u hu
      have P3 : Agree 12 ρ q3 := Pa.trans (g3.mono (by omega))
      rw [erow q3 g3, P3.h 11 (by omega), w11]
      have ev3 : vecQ q3 24 = vecQ q 24 := vag (ga.trans (g3.mono (by omega))) (by omega)
      refine ⟨⟨vecQ q3 24, row, h, R2, rfl, rfl, rfl, xh⟩, fun q4 g4 ⟨F4, hp4, _, _⟩ => ?_⟩
      have hb4 : q4.b 51 = readyB (vecQ q 24) h := by
        have h1 : Value.bool (q4.b 51) = .bool (readyB (vecQ q3 24) h) := ready_post xh (v := vecQ q3 24) hp4
        rw [ev3] at h1
        simpa using h1
      rw [hb4]
      have tk := take_ready (v := vecQ q 24) hh
      refine ⟨fun hb q5 g5 _ => ?_, fun hb => ?_⟩
      · have A5 : Agree 50 qa q5 := g3.trans ((g4.mono (by omega)).trans (g5.mono (by omega)))
        rw [erow q5 A5, A5.h 45 (by omega), A5.i 40 (by omega), A5.i 42 (by omega), A5.i 43 (by omega)]
        refine ⟨⟨⟨_, hRR.pre i42⟩, by omega, by unfold maxLen; omega, by omega⟩, fun q6 g6 ⟨b1, b2, b3, _⟩ => ?_⟩
        have A6 : Agree 50 qa q6 := A5.trans (g6.mono (by omega))
        rw [if_pos hb] at tk
        refine ⟨⟨k + 1, rr ++ [row], ?_, by omega, ?_, ?_, b1, b2, ?_, ?_⟩, ?_⟩
        · show IntKind.i64.wrap (q6.i 44 + 1) = _
          rw [A6.i 44 (by omega), i44, wrap_i64 (by omega) (by omega)]; omega
        · show q6.i 42 + 1 = _
          rw [A6.i 42 (by omega), i42, List.length_append, List.length_singleton]; omega
        · rw [List.length_append, List.length_singleton]; omega
        · show OwR (q6.h 53) _ hkd (.slice (slP (q6.i 53) 0) (q6.i 42 + 1).toNat (q6.i 54).toNat) (rr ++ [row])
          rw [A6.i 42 (by omega)]
          exact OwR.app hRR i42 hok b3
        · show HdAll R2 (rr ++ [row]) ((hs.take (k + 1)).filter (readyB (vecQ q6 24)))
          rw [vag A6 (by omega), ev, tk]
          exact hRa.snoc xh
        · rw [if_neg (by decide), if_neg (by decide)]
          show ((rows.length : Int) - IntKind.i64.wrap (q6.i 44 + 1)).toNat < _
          rw [A6.i 44 (by omega), i44, wrap_i64 (by omega) (by omega)]; omega
      · have A4 : Agree 50 qa q4 := g3.trans (g4.mono (by omega))
        rw [if_neg hb, List.append_nil] at tk
        refine ⟨⟨k + 1, rr, ?_, by omega, ?_, by omega, ?_, ?_, ?_, ?_⟩, ?_⟩
        · show IntKind.i64.wrap (q4.i 44 + 1) = _
          rw [A4.i 44 (by omega), i44, wrap_i64 (by omega) (by omega)]; omega
        · show q4.i 42 = _
          rw [A4.i 42 (by omega), i42]
        · show -1 ≤ q4.i 40
          rw [A4.i 40 (by omega)]; exact i40
        · show 0 ≤ q4.i 43
          rw [A4.i 43 (by omega)]; exact i43
        · show OwR (q4.h 45) _ hkd (.slice (slP (q4.i 40) 0) (q4.i 42).toNat (q4.i 43).toNat) rr
          rw [A4.h 45 (by omega), A4.i 40 (by omega), A4.i 42 (by omega), A4.i 43 (by omega)]
          exact hRR
        · show HdAll R2 rr ((hs.take (k + 1)).filter (readyB (vecQ q4 24)))
          rw [vag A4 (by omega), ev, tk]
          exact hRa
        · rw [if_neg (by decide), if_neg (by decide)]
          show ((rows.length : Int) - IntKind.i64.wrap (q4.i 44 + 1)).toNat < _
          rw [A4.i 44 (by omega), i44, wrap_i64 (by omega) (by omega)]; omega
    have hkl : k = rows.length := by omega
    rw [List.take_of_length_le (by omega)] at hRa
    have hO' : OwR (qa.h 30) 37 hkd (rowsL qa 20 22 23) outRows := by
      unfold rowsL
      rw [ga.h 30 (by omega), ga.i 20 (by omega), ga.i 22 (by omega), ga.i 23 (by omega)]; exact hO
    refine ⟨by omega, fun h0 => ?_, fun hn0 => ?_⟩
    · have hr0 : rr = [] := List.length_eq_zero_iff.1 (by omega)
      have hf0 : hs.filter (readyB (vecQ q 24)) = [] := List.length_eq_zero_iff.1 (by rw [← hRa.1, hr0]; rfl)
      intro _
      refine ⟨[], [4], rfl, rfl, ⟨⟨fun j => if j = 1 then 0 else qa.i (20 + j), fun _ => false, fun _ => .empty, fun _ => .tuple #[], fun _ => Hl.none⟩, rfl, ?_⟩, V, _, R1, R2, rows, hs, rowsL qa 20 22 23, out, outRows, vecQ q 24, rfl, rfl, hV6, hRd, hAll, by rw [← ev]; rfl, hC, hf0, ?_, ?_⟩
      · refine ⟨⟨?_, Int.le_refl 0, ?_, ?_⟩, ⟨trivial, trivial, trivial, trivial, trivial, trivial, trivial⟩, trivial⟩
        · show -1 ≤ qa.i 20
          rw [ga.i 20 (by omega)]; exact i20
        · show 0 ≤ qa.i 22
          rw [ga.i 22 (by omega), i22]; omega
        · show 0 ≤ qa.i 23
          rw [ga.i 23 (by omega)]; exact i23
      · show RdRows (hls [qa.h 30]) _ _ _
        rw [hls_one]; exact hO'.rd
      · show HdAll (hls [qa.h 30]) _ _
        rw [hls_one, ga.h 30 (by omega)]; exact hOa
    · intro q3 g3 _
      obtain ⟨r0, rr', hrr⟩ : ∃ r0 rr', rr = r0 :: rr' := by
        cases rr with
        | nil => exact absurd (by rw [i42]; rfl) hn0
        | cons a l => exact ⟨a, l, rfl⟩
      obtain ⟨m, rest, hmr⟩ : ∃ m rest, hs.filter (readyB (vecQ q 24)) = m :: rest := by
        cases hf : hs.filter (readyB (vecQ q 24)) with
        | nil => rw [hf, hrr] at hRa; cases hRa.1
        | cons a l => exact ⟨a, l, rfl⟩
      rw [hmr] at hRa
      have own45 : ∀ {i : Nat} {row : List Value}, rr[i]? = some row → 0 ≤ qa.i 40 ∧ rowOK row hkd ∧ ∀ j u, row[j]? = some u → (qa.h 45).cell (qa.i 40).toNat (i * hkd.length + j) = some u := fun hr => own_rows hRR i40 hr
      obtain ⟨p40, ok0, c0⟩ := own45 (i := 0) (row := r0) (by rw [hrr]; rfl)
      rw [g3.i 42 (by omega), g3.i 40 (by omega), g3.h 45 (by omega)]
      refine ⟨fun h1 => by omega, fun _ => ⟨p40, rowIs_of _ ok0 fun j u hu => by have := c0 j u hu; rw [Nat.zero_mul] at this; exact this, fun q4 g4 _ => ?_⟩⟩
      have rr45 : ∀ q', Agree 50 qa q' → OwR (q'.h 45) 37 hkd (rowsL q' 40 42 43) rr := by
        intro q' a
        unfold rowsL
        rw [a.h 45 (by omega), a.i 40 (by omega), a.i 42 (by omega), a.i 43 (by omega)]; exact hRR
      refine ⟨?_, fun q5 g5 hI5 => ?_⟩
      · show ordInv V R2 rows hs 2 (assign q4 oA2 [])
        have hg : goodA 52 oA2 [] = true := by kernel_rfl
        have ag := assign_old (ρ := q4) hg
        have est : (SV.agg (Sx.ckCVs 70 hk2)).ev (assign q4 oA2 []) = (SV.agg (romCells 45 (.var 40) (.lit 0) 0 hkd)).ev q4 := assign_ag (n0 := 52) (ρ := q4) (A := oA2) (hs := []) (l := Sx.ckCVs 70 hk2) (m := romCells 45 (.var 40) (.lit 0) 0 hkd) hg (by kernel_rfl) (fun y hy => List.mem_append_right _ hy)
        have e60 : (assign q4 oA2 []).i 60 = 1 := rfl
        generalize assign q4 oA2 [] = qn at ag est e60
        have A4 : Agree 50 qa q4 := g3.trans (g4.mono (by omega))
        have An : Agree 50 qa qn := A4.trans (ag.mono (by omega))
        have er0 : (romCells 45 (.var 40) (.lit 0) 0 hkd).map (CV.ev q4) = r0 := by
          refine romCells_row r0 hkd 0 ok0 fun i u hu => ?_
          simp only [iev_var, iev_lit]
          rw [A4.h 45 (by omega), A4.i 40 (by omega)]
          have := c0 i u hu
          rw [Nat.zero_mul] at this
          rw [show Int.toNat 0 + (0 + i) = 0 + i by simp]
          exact this
        have ern : rowN qn 70 = r0 := (agg_inj est).trans er0
        have xm0 := hRa.2 0 r0 m (by rw [hrr]; rfl) rfl
        exact ⟨1, rr, m, rest, e60, Nat.le_refl _, by rw [hrr]; simp, rr45 qn An, hRa, by rw [ern]; exact xm0⟩
      · obtain ⟨k2, rr2, m2, rest2, i60, k1, kle, hO5, hA5, xm⟩ := hI5
        have A5 : Agree 50 qa q5 := g3.trans ((g4.mono (by omega)).trans (g5.mono (by omega)))
        have e := (rr45 q5 A5).rd.uniq hO5.rd
        subst e
        have e := hRa.uniq hA5
        simp only [List.cons.injEq] at e
        obtain ⟨e1, e2⟩ := e
        subst e1; subst e2
        rw [A5.i 42 (by omega), A5.i 40 (by omega), A5.h 45 (by omega), i60, i42]
        refine ⟨fun hlt => ?_, fun hge => ?_⟩
        · obtain ⟨rowk, hrowk⟩ : ∃ r, rr[k2]? = some r := ⟨_, List.getElem?_eq_getElem (by omega)⟩
          obtain ⟨_, okk, ck⟩ := own45 hrowk
          obtain ⟨hk', hhk, xk⟩ := hRa.at hrowk
          have hrest : rest[k2 - 1]? = some hk' := by
            obtain ⟨j, rfl⟩ : ∃ j, k2 = j + 1 := ⟨k2 - 1, by omega⟩
            simpa using hhk
          have ck' : ∀ i u, rowk[i]? = some u → (qa.h 45).cell (qa.i 40).toNat (((k2 : Int) * 125).toNat + i) = some u := fun i u hu => by
            rw [← ck i u hu, hkd_len]; congr 1 <;> omega
          have erow5 : ∀ q', Agree 200 q5 q' → List.map (CV.ev q') (romCells 45 (.var 40) (.mul (.var 60) (.lit 125)) 0 hkd) = rowk := by
            intro q' a
            have Aq : Agree 50 qa q' := A5.trans (a.mono (by omega))
            refine romCells_row rowk hkd 0 okk fun i u hu => ?_
            simp only [iev_var, iev_lit, iev_mul]
            rw [Aq.h 45 (by omega), Aq.i 40 (by omega), a.i 60 (by omega), i60, Nat.zero_add]
            exact ck' i u hu
          rw [erow5 q5 (Agree.refl _ _)]
          refine ⟨by omega, rowIs_of _ okk ck', ⟨rowk, rowN q5 70, rfl, okk, xm.ok⟩, fun q6 g6 ⟨F6, ⟨r1, r2, hx6, hv6⟩, _, _⟩ => ?_⟩
          have hx6 : Value.agg rowk.toArray = .agg r1.toArray ∧ Value.agg (rowN q5 70).toArray = .agg r2.toArray := by
            have h1 : [Value.agg rowk.toArray, Value.agg (rowN q5 70).toArray] = [.agg r1.toArray, .agg r2.toArray] := hx6
            simpa using h1
          rw [← agg_inj hx6.1, ← agg_inj hx6.2, first_hd xk xm] at hv6
          have h200 : q6.i 200 = cmpH hk' (minOf m (rest.take (k2 - 1))) := by simpa using hv6
          have hmt := minOf_take (m := m) hrest
          rw [show k2 - 1 + 1 = k2 by omega] at hmt
          unfold pick at hmt
          rw [← h200] at hmt
          have A6 : Agree 50 qa q6 := A5.trans (g6.mono (by omega))
          refine ⟨fun hneg => ?_, fun hpos => ?_⟩
          · rw [if_pos hneg] at hmt
            have hg : goodA 52 oA3 [] = true := by kernel_rfl
            have ag := assign_old (ρ := q6) hg
            have est : (SV.agg (Sx.ckCVs 70 hk2)).ev (assign q6 oA3 []) = (SV.agg (romCells 45 (.var 40) (.mul (.var 60) (.lit 125)) 0 hkd)).ev q6 := assign_ag (n0 := 52) (ρ := q6) (A := oA3) (hs := []) (l := Sx.ckCVs 70 hk2) (m := romCells 45 (.var 40) (.mul (.var 60) (.lit 125)) 0 hkd) hg (by kernel_rfl) (fun y hy => List.mem_append_right _ hy)
            have e60 : (assign q6 oA3 []).i 60 = k2 + 1 := by
              show IntKind.i64.wrap (q6.i 60 + 1) = _
              rw [g6.i 60 (by omega), i60, wrap_i64 (by omega) (by omega)]
            show ordInv V R2 rows hs 2 (assign q6 oA3 []) ∧ (if 2 = 0 then cnt hs (vecQ (assign q6 oA3 []) 24) else if 2 = 1 then ((rows.length : Int) - (assign q6 oA3 []).i 44).toNat else ((assign q6 oA3 []).i 42 - (assign q6 oA3 []).i 60).toNat) < (if 2 = 0 then cnt hs (vecQ q5 24) else if 2 = 1 then ((rows.length : Int) - q5.i 44).toNat else ((rr.length : Int) - k2).toNat)
            generalize assign q6 oA3 [] = qn at ag est e60
            have An : Agree 50 qa qn := A6.trans (ag.mono (by omega))
            have ern : rowN qn 70 = rowk := (agg_inj est).trans (erow5 q6 g6)
            refine ⟨⟨k2 + 1, rr, m, rest, by rw [e60]; omega, by omega, by omega, rr45 qn An, hRa, by rw [ern, Nat.add_sub_cancel, hmt]; exact xk⟩, ?_⟩
            rw [if_neg (by decide), if_neg (by decide), if_neg (by decide), if_neg (by decide), e60, An.i 42 (by omega), i42]; omega
          · rw [if_neg hpos] at hmt
            have hg : goodA 52 oA4 [] = true := by kernel_rfl
            have ag := assign_old (ρ := q6) hg
            have est : (SV.agg (Sx.ckCVs 70 hk2)).ev (assign q6 oA4 []) = (SV.agg (Sx.ckCVs 70 hk2)).ev q6 := assign_ag (n0 := 52) (ρ := q6) (A := oA4) (hs := []) (l := Sx.ckCVs 70 hk2) (m := Sx.ckCVs 70 hk2) hg (by kernel_rfl) (fun y hy => List.mem_append_right _ hy)
            have e60 : (assign q6 oA4 []).i 60 = k2 + 1 := by
              show IntKind.i64.wrap (q6.i 60 + 1) = _
              rw [g6.i 60 (by omega), i60, wrap_i64 (by omega) (by omega)]
            show ordInv V R2 rows hs 2 (assign q6 oA4 []) ∧ (if 2 = 0 then cnt hs (vecQ (assign q6 oA4 []) 24) else if 2 = 1 then ((rows.length : Int) - (assign q6 oA4 []).i 44).toNat else ((assign q6 oA4 []).i 42 - (assign q6 oA4 []).i 60).toNat) < (if 2 = 0 then cnt hs (vecQ q5 24) else if 2 = 1 then ((rows.length : Int) - q5.i 44).toNat else ((rr.length : Int) - k2).toNat)
            generalize assign q6 oA4 [] = qn at ag est e60
            have An : Agree 50 qa qn := A6.trans (ag.mono (by omega))
            have ern : rowN qn 70 = rowN q5 70 := (agg_inj est).trans (rowN_ag g6 (by decide))
            refine ⟨⟨k2 + 1, rr, m, rest, by rw [e60]; omega, by omega, by omega, rr45 qn An, hRa, by rw [ern, Nat.add_sub_cancel, hmt]; exact xm⟩, ?_⟩
            rw [if_neg (by decide), if_neg (by decide), if_neg (by decide), if_neg (by decide), e60, An.i 42 (by omega), i42]; omega
        · have hk2l : k2 = rr.length := by omega
          have hrl : rest.take (k2 - 1) = rest := by
            have := hRa.1
            rw [List.length_cons] at this
            exact List.take_of_length_le (by omega)
          rw [hrl] at xm
          obtain ⟨b, hb⟩ : ∃ b, b = minOf m rest := ⟨_, rfl⟩
          rw [← hb] at xm
          obtain ⟨pk1, pk2⟩ := pick_ready hmr
          rw [← hb] at pk1 pk2
          intro q6 g6 _
          have A6 : Agree 50 qa q6 := A5.trans (g6.mono (by omega))
          have P6 : Agree 12 ρ q6 := Pa.trans (A6.mono (by omega))
          have htok := xm.tok
          have esl : tokV (rowN q5 70) = .slice (slP (q6.i 123) (q6.i 124)) (q6.i 125).toNat (q6.i 126).toNat := by
            unfold tokV
            rw [g6.i 123 (by omega), g6.i 124 (by omega), g6.i 125 (by omega), g6.i 126 (by omega)]
            rfl
          have htok : RdRows R2 (tokV (rowN q5 70)) tkd (b.t.map bys) := htok
          rw [esl] at htok
          rw [P6.h 11 (by omega), w11]
          refine ⟨⟨_, b.t, R2, rfl, rfl, htok, fun t ht => (xm.byte t ht).1, by have := xm.few; omega⟩, fun q7 g7 ⟨F7, ⟨v7', T7, R7, hx7, hR7, hd7, hcl⟩, hF7, hn7⟩ => fun q8 g8 _ => fun q9 g9 ⟨hun, hdis⟩ => ?_⟩
          have hF7 := hF7 trivial
          have hR7 : R2 = R7 := by simpa using hR7
          subst hR7
          have hx7 : Value.slice (slP (q6.i 123) (q6.i 124)) (q6.i 125).toNat (q6.i 126).toNat = v7' := by simpa using hx7
          subst hx7
          have eT := htok.uniq hd7
          rw [← eT, ← hF7] at hcl
          have A9 : Agree 50 qa q9 := A6.trans ((g7.mono (by omega)).trans ((g8.mono (by omega)).trans (g9.mono (by omega))))
          have B9 : Agree 31 q q9 := ga.trans (A9.mono (by omega))
          have C9 : Agree 200 q5 q9 := g6.trans ((g7.mono (by omega)).trans ((g8.mono (by omega)).trans (g9.mono (by omega))))
          have e30 : q8.h 30 = q.h 30 := by rw [g8.h 30 (by omega), g7.h 30 (by omega), A6.h 30 (by omega), ga.h 30 (by omega)]
          rw [e30, g8.h 201 (by omega)] at hun hdis
          obtain ⟨U, hU⟩ : ∃ U, U = Value.slice (slP (q9.i 201) (q9.i 202)) (q9.i 203).toNat (q9.i 204).toNat := ⟨_, rfl⟩
          have hUcl : RdRows (q7.h 201) U tkd (b.t.map bys) := by
            rw [hU, g9.i 201 (by omega), g9.i 202 (by omega), g9.i 203 (by omega), g9.i 204 (by omega), g8.i 201 (by omega), g8.i 202 (by omega), g8.i 203 (by omega), g8.i 204 (by omega)]
            exact hcl
          have erow : ∀ z, z = (Sx.ckCVs 70 hA ++ [CV.sl (E.var 201) (E.var 202) (E.var 203) (E.var 204)] ++ Sx.ckCVs 127 hB) → List.map (CV.ev q9) z = (rowN q9 70).set 53 U := by
            rintro z rfl
            rw [set53, List.map_append, List.map_append, List.append_assoc, hU]
            rfl
          rw [erow _ rfl]
          have e70 : rowN q9 70 = rowN q5 70 := rowN_ag C9 (by decide)
          have xnew : IsHd (q7.h 201) ((rowN q9 70).set 53 U) b := by rw [e70]; exact xm.clone hUcl
          generalize hrow' : (rowN q9 70).set 53 U = row' at xnew
          have hown : OwnsH (q9.h 206) 37 125 (rowsL q 20 22 23) (q.i 22).toNat outRows.flatten := by
            rw [hun]
            exact ownsH_un (hO.pre (by rw [hOa.1]; exact i22))
          rw [B9.i 20 (by omega), B9.i 22 (by omega), B9.i 23 (by omega)]
          refine ⟨⟨⟨_, hown⟩, by omega, by unfold maxLen; omega, by omega⟩, fun q10 g10 ⟨b1, b2, b3, b4, b5, b6⟩ => ?_⟩
          have A10 : Agree 50 qa q10 := A9.trans (g10.mono (by omega))
          have B10 : Agree 31 q q10 := B9.trans (g10.mono (by omega))
          have C10 : Agree 200 q5 q10 := C9.trans (g10.mono (by omega))
          have ew : q10.i 70 = b.w := by
            unfold Hd.w
            rw [xm.core, core_I (by decide), rowN_lo (by decide) (by decide), C10.i 70 (by omega)]
          have es : q10.i 71 = b.seq := by
            unfold Hd.seq
            rw [xm.core, core_I (by decide), rowN_lo (by decide) (by decide), C10.i 71 (by omega)]
          obtain ⟨hbf, hbw, _, _⟩ := ready_next pk2
          have ewr : IntKind.i64.wrap (q10.i 70 - 1) = b.w - 1 := by rw [ew, wrap_i64 (by omega) (by omega)]
          show 0 ≤ IntKind.i64.wrap (q10.i 70 - 1) ∧ IntKind.i64.wrap (q10.i 70 - 1) < 6 ∧ (0 ≤ IntKind.i64.wrap (q10.i 70 - 1) ∧ IntKind.i64.wrap (q10.i 70 - 1) < 6) ∧ ordInv V R2 rows hs 0 (assign q10 oA5 [(30, some 207)]) ∧ cnt hs (vecQ (assign q10 oA5 [(30, some 207)]) 24) < (if 0 = 1 then (if 2 = 0 then cnt hs (vecQ q5 24) else if 2 = 1 then ((rows.length : Int) - q5.i 44).toNat else ((rr.length : Int) - k2).toNat) else if 0 = 1 then (if 1 = 0 then cnt hs (vecQ qa 24) else ((rows.length : Int) - k).toNat) else cnt hs (vecQ q 24))
          rw [ewr, if_neg (by decide), if_neg (by decide)]
          have hg : goodA 14 oA5 [(30, some 207)] = true := by kernel_rfl
          have est : (SV.agg (Sx.ckCVs 24 v6s)).ev (assign q10 oA5 [(30, some 207)]) = (SV.agg oM).ev q10 := assign_ag (n0 := 14) (ρ := q10) (A := oA5) (hs := [(30, some 207)]) (l := Sx.ckCVs 24 v6s) (m := oM) hg (by kernel_rfl) (fun y hy => List.mem_append_right _ hy)
          rw [oM_ev] at est
          have est : vecQ (assign q10 oA5 [(30, some 207)]) 24 = vecM q10 := vecV_inj est
          rw [vecM_bump ew es hbw, vag B10 (by omega)] at est
          rw [est]
          refine ⟨by omega, by omega, ⟨by omega, by omega⟩, ?_, cnt_bump hv'6 pk1 pk2⟩
          have hownm : ∀ bb, (rowsL q 20 22 23).ownBlock = some bb → (q.h 30).mem bb := by
            intro bb hbb
            rcases hO.2.2 with ⟨h, _⟩ | ⟨gg, cap, cur, h, hgg, _⟩
            · rw [h] at hbb; cases hbb
            · rw [h] at hbb; cases hbb
              unfold Hl.mem; rw [hgg]; rfl
          have hnew : ∀ bb, (q9.h 206).mem bb → some bb ≠ (rowsL q 20 22 23).ownBlock → some bb ≠ (Value.slice (slP (q10.i 207) 0) (q.i 22 + 1).toNat (q10.i 208).toNat).ownBlock := by
            intro bb hbb hne he
            rcases Int.lt_or_le (q10.i 207) 0 with hn | hn
            · have e1 : q10.i 207 = -1 := by omega
              rw [e1, slP_nil] at he; cases he
            · rw [own_slP hn] at he
              have he : bb = (q10.i 207).toNat := by simpa using he
              rcases b6 with h | h | h
              · exact hne (by rw [he]; exact h)
              · rw [← he] at h; exact h hbb
              · omega
          have hle : (q.h 30).le (q9.h 206) := by rw [hun]; exact Hl.un_left _ _
          have hle2 : (q7.h 201).le (q9.h 206) := by rw [hun]; exact un_right hdis
          have hold := (hOa.mono hle).keep (o' := (Value.slice (slP (q10.i 207) 0) (q.i 22 + 1).toNat (q10.i 208).toNat).ownBlock) hAp b4 hnew
          have hapn : b.t ≠ [] → (tokV row').ownBlock ≠ (rowsL q 20 22 23).ownBlock := by
            intro ht he
            obtain ⟨ta, ty, tl, tc, h0, e, hm⟩ := tok_mem xnew ht
            rw [e, own_slP h0] at he
            exact hdis _ ⟨hownm _ he.symm, hm⟩
          have hnewr := (xnew.mono hle2).keep (o' := (Value.slice (slP (q10.i 207) 0) (q.i 22 + 1).toNat (q10.i 208).toNat).ownBlock) hapn b4 hnew
          have hO206 : OwR (q9.h 206) 37 hkd (rowsL q 20 22 23) outRows := ⟨hO.1, by rw [hun]; exact ownsH_un hO.2⟩
          have eL : rowsL (assign q10 oA5 [(30, some 207)]) 20 22 23 = .slice (slP (q10.i 207) 0) (q.i 22 + 1).toNat (q10.i 208).toNat := by
            show Value.slice (slP (q10.i 207) 0) (q10.i 22 + 1).toNat (q10.i 208).toNat = _
            rw [B10.i 22 (by omega)]
          refine ⟨out ++ [b], outRows ++ [row'], ?_, ?_, b1, b2, ?_, ?_, ?_⟩
          · rw [est, hb]
            exact hC.snoc hmr
          · show q10.i 22 + 1 = _
            rw [B10.i 22 (by omega), i22, List.length_append, List.length_singleton]; omega
          · rw [eL]
            exact OwR.app hO206 (by rw [hOa.1]; exact i22) xnew.ok b3
          · exact hold.1.snoc hnewr.1
          · rw [eL]
            exact Apart.snoc hOa.1 hold.2 hnewr.2
end Go.Proofs.Ytnlejejjeilpoaa.V2
