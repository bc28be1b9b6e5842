/- law14.VectorTurned answers true, as a contract. Condition: headers that read as such when they have at most 20 tokens. -/
import Derived.Test.YtnlejejjeilpoaaVfH
import Derived.Test.YtnlejejjeilpoaaVfJ
set_option linter.unusedSimpArgs false
set_option linter.unusedVariables false
set_option linter.constructorNameAsVariable false
namespace Go.Proofs.Ytnlejejjeilpoaa.V2
open Go Go.Sx

theorem splice_mid {α : Type} (A B C V : List α) (h : B.length = V.length) : splice (A ++ (B ++ C)) A.length V = A ++ (V ++ C) := by
  unfold splice
  rw [List.take_left, ← h, ← List.append_assoc, ← List.length_append, List.drop_left, List.append_assoc]
theorem flat_split {α : Type} : ∀ {rows : List (List α)} {i : Nat} {row : List α}, rows[i]? = some row → rows.flatten = (rows.take i).flatten ++ (row ++ (rows.drop (i + 1)).flatten)
  | [], i, row, h => by simp at h
  | r :: rows, 0, row, h => by
    simp only [List.getElem?_cons_zero, Option.some.injEq] at h
    subst h
    simp
  | r :: rows, i + 1, row, h => by
    have ih := flat_split (rows := rows) (i := i) (row := row) (by simpa using h)
    simp only [List.flatten_cons, List.take_succ_cons, List.drop_succ_cons, List.append_assoc]
    rw [ih]
theorem flat_len {n : Nat} : ∀ {rows : List (List Value)}, (∀ r ∈ rows, r.length = n) → rows.flatten.length = rows.length * n
  | [], _ => by simp
  | r :: rows, h => by
    rw [List.flatten_cons, List.length_append, h r (List.mem_cons_self ..), flat_len fun r hr => h r (List.mem_cons_of_mem _ hr), List.length_cons, Nat.succ_mul]; omega
/-- A row of an own slice is turned. -/
theorem OwR.write {F : Hl} {e : TypeId} {ks : List Kd} {x l c : Int} {rows : List (List Value)} {i : Nat} {row : List Value} (h : OwR F e ks (.slice (slP x 0) l.toNat c.toNat) rows) (hi : i < rows.length) (hx : -1 ≤ x) (hr : rowOK row ks) :
    F.wr x.toNat (i * ks.length) ks.length = true ∧ OwR (F.put x.toNat (i * ks.length) row) e ks (.slice (slP x 0) l.toNat c.toNat) (rows.set i row) := by
  obtain ⟨hk, hl, h⟩ := h
  have hkl : ∀ r ∈ rows, r.length = ks.length := fun r hr => rowOK_length (hk r hr)
  have hrl := rowOK_length hr
  rcases h with ⟨_, hn⟩ | ⟨g, cap, cur, hv, hg, hle, hm, hs, ht⟩
  · omega
  · simp only [Value.slice.injEq] at hv
    obtain ⟨hp, hll, hcc⟩ := hv
    have h0 : 0 ≤ x := by
      rcases Int.lt_or_le x 0 with hlt | h0
      · rw [show x = -1 by omega, slP_nil] at hp; cases hp
      · exact h0
    rw [slP_pos h0] at hp
    simp only [Option.some.injEq, Addr.mk.injEq, and_true] at hp
    obtain ⟨hxg, _⟩ := hp
    have hrow : rows[i]? = some rows[i] := List.getElem?_eq_getElem hi
    have hsp := flat_split hrow
    have hA : (rows.take i).flatten.length = i * ks.length := by
      rw [flat_len fun r hr => hkl r (List.mem_of_mem_take hr), List.length_take, Nat.min_eq_left (by omega)]
    have hB : rows[i].length = ks.length := hkl _ (List.getElem_mem hi)
    have hmul : (i + 1) * ks.length ≤ cap * ks.length := Nat.mul_le_mul_right _ (by omega)
    rw [Nat.succ_mul] at hmul
    have hcur : cur.toList = (rows.take i).flatten ++ (rows[i] ++ ((rows.drop (i + 1)).flatten ++ cur.toList.drop (rows.length * ks.length))) := by
      have h1 := (List.take_append_drop (rows.length * ks.length) cur.toList).symm
      rw [ht, hsp] at h1
      simpa only [List.append_assoc] using h1
    have hsl : splice cur.toList (i * ks.length) row = (rows.set i row).flatten ++ cur.toList.drop (rows.length * ks.length) := by
      have e2 := flat_split (rows := rows.set i row) (i := i) (row := row) (by rw [List.getElem?_set_self hi])
      rw [List.take_set_of_le (by omega), List.drop_set_of_lt (by omega)] at e2
      rw [e2]
      simp only [List.append_assoc]
      conv => lhs; rw [hcur]
      rw [← hA, splice_mid _ _ _ _ (by rw [hB, hrl])]
    have hfl : (rows.set i row).flatten.length = rows.length * ks.length := by
      rw [flat_len fun r hr' => ?_, List.length_set]
      rcases List.mem_or_eq_of_mem_set hr' with h | h
      · exact hkl r h
      · rw [h]; exact hrl
    refine ⟨?_, fun r hr' => ?_, ?_⟩
    · rw [hxg]; unfold Hl.wr; rw [hg]; simp; omega
    · rcases List.mem_or_eq_of_mem_set hr' with h | h
      · exact hk r h
      · rw [h]; exact hr
    · rw [List.length_set]
      refine ⟨hfl, Or.inr ⟨g, cap, (splice cur.toList (i * ks.length) row).toArray, ?_, ?_, hle, hm, ?_, ?_⟩⟩
      · rw [slP_pos h0, hxg, hll, hcc]; rfl
      · unfold Hl.put
        rw [hxg, if_pos rfl, hg]
      · rw [List.size_toArray, hsl, List.length_append, hfl, List.length_drop]
        have e := hs
        rw [← Array.length_toList] at e
        have : rows.length * ks.length ≤ cap * ks.length := Nat.mul_le_mul_right _ hle
        omega
      · rw [hsl, ← hfl, List.take_left]
/-- The numbers that a header's row begins with. -/
theorem hd_ws {R : Hl} {row : List Value} {h : Hd} (x : IsHd R row h) : row[0]? = some (.int .i64 h.w) ∧ row[1]? = some (.int .u64 h.seq) := by
  obtain ⟨c0v, hc0, his0⟩ := rowOK_get (j := 0) (k := .int .i64) x.ok rfl
  obtain ⟨c1v, hc1, his1⟩ := rowOK_get (j := 1) (k := .int .u64) x.ok rfl
  obtain ⟨n0, rfl⟩ := int_of his0
  obtain ⟨n1, rfl⟩ := int_of his1
  constructor
  · unfold Hd.w
    rw [x.core, core_I (by decide), hc0]
    unfold cI
    rw [hc0]; rfl
  · unfold Hd.seq
    rw [x.core, core_I (by decide), hc1]
    unfold cI
    rw [hc1]; rfl
def turnedS : Sx.Spec where
  fn := 7
  own := []
  rd := [101]
  res := [.one .bool]
  pre := fun xs Hs Rs => ∃ v u n R rows, xs = [vecV v, u, .int .u8 n] ∧ Rs = [R] ∧ v.length = 6 ∧ (0 ≤ n ∧ n < 256) ∧ RdRows R u hkd rows ∧ ∀ row ∈ rows, Given R row
  post := fun xs Hs Rs r Hs' F => r = .bool true
def turnedNd : Nd := .ext (.alloc 12) (.and (.pre (.call 0 13 [] [] [])) (.ext (.call 0 13 [] [] []) (.and (.imp (.bvar 13) (.and (.pre (.call 1 14 [.sv (.one (.sl (.var 6) (.var 7) (.var 8) (.var 9))), .sv (.one (.int .i64 (.lit 20)))] [] [.ro 11 [.var 6] true])) (.ext (.call 1 14 [.sv (.one (.sl (.var 6) (.var 7) (.var 8) (.var 9))), .sv (.one (.int .i64 (.lit 20)))] [] [.ro 11 [.var 6] true]) (.and (.imp (.not (.bvar 14)) (.and (.pre (.call 0 15 [] [] [])) (.ext (.call 0 15 [] [] []) (.post [.ro 11 [.var 6] true, .dead] (.sv (.one (.bool (.bvar 15)))))))) (.imp (.bvar 14) (.and (.inv 0 [⟨20, 0, .int .i64 (.lit (-1))⟩, ⟨22, 0, .int .i64 (.lit 0)⟩, ⟨23, 0, .int .i64 (.lit 0)⟩, ⟨24, 0, .int .i64 (.lit 0)⟩] [(30, none)]) (.havoc 0 0 15 (.and (.e (.le (.lit 0) (.var 8))) (.and (.imp (.lt (.var 24) (.var 8)) (.and (.inv 1 [⟨32, 0, .int .i64 (.lit 0)⟩] []) (.havoc 1 1 31 (.and (.imp (.lt (.var 32) (.var 24)) (.and (.e (.le (.lit 0) (.var 6))) (.and (.e (.le (.lit 0) (.var 7))) (.and (.e (.le (.lit 0) (.var 24))) (.and (.e (.his 11 (.var 6) (.add (.var 7) (.mul (.var 24) (.lit 125))) 0 (.int .i64))) (.and (.e (.le (.lit 0) (.var 32))) (.and (.e (.lt (.var 32) (.var 8))) (.and (.e (.his 11 (.var 6) (.add (.var 7) (.mul (.var 32) (.lit 125))) 0 (.int .i64))) (.and (.imp (.eq (.hI 11 (.var 6) (.add (.var 7) (.mul (.var 24) (.lit 125))) 0) (.hI 11 (.var 6) (.add (.var 7) (.mul (.var 32) (.lit 125))) 0)) (.and (.e (.his 11 (.var 6) (.add (.add (.var 7) (.mul (.var 24) (.lit 125))) (.lit 1)) 0 (.int .u64))) (.and (.e (.his 11 (.var 6) (.add (.add (.var 7) (.mul (.var 32) (.lit 125))) (.lit 1)) 0 (.int .u64))) (.and (.imp (.eq (.hI 11 (.var 6) (.add (.add (.var 7) (.mul (.var 24) (.lit 125))) (.lit 1)) 0) (.hI 11 (.var 6) (.add (.add (.var 7) (.mul (.var 32) (.lit 125))) (.lit 1)) 0)) (.post [.ro 11 [.var 6] true, .dead, .hp 30 [] [.var 20] []] (.sv (.one (.bool .tt))))) (.imp (.not (.eq (.hI 11 (.var 6) (.add (.add (.var 7) (.mul (.var 24) (.lit 125))) (.lit 1)) 0) (.hI 11 (.var 6) (.add (.add (.var 7) (.mul (.var 32) (.lit 125))) (.lit 1)) 0))) (.back 1 1 [⟨32, 0, .int .i64 (.wrap .i64 (.add (.var 32) (.lit 1)))⟩] [])))))) (.imp (.not (.eq (.hI 11 (.var 6) (.add (.var 7) (.mul (.var 24) (.lit 125))) 0) (.hI 11 (.var 6) (.add (.var 7) (.mul (.var 32) (.lit 125))) 0))) (.back 1 1 [⟨32, 0, .int .i64 (.wrap .i64 (.add (.var 32) (.lit 1)))⟩] []))))))))))) (.imp (.not (.lt (.var 32) (.var 24))) (.and (.e (.not (.eq (.var 8) (.lit 0)))) (.and (.e (.le (.lit 0) (.var 6))) (.and (.e (.le (.lit 0) (.var 7))) (.and (.e (.le (.lit 0) (.rem (.wrap .i64 (.add (.var 24) (.wrap .i64 (.var 10)))) (.var 8)))) (.and (.e (.lt (.rem (.wrap .i64 (.add (.var 24) (.wrap .i64 (.var 10)))) (.var 8)) (.var 8))) (.and (.e (.hks 11 (.var 6) (.add (.var 7) (.mul (.rem (.wrap .i64 (.add (.var 24) (.wrap .i64 (.var 10)))) (.var 8)) (.lit 125))) hkd)) (.ext (.alloc 33) (.and (.pre (.app 34 37 125 232 (.sl (.var 20) (.lit 0) (.var 22) (.var 23)) (.var 22) (.hp 30 [] [.var 20] []) (.cvs (romCells 11 (.var 6) (.add (.var 7) (.mul (.rem (.wrap .i64 (.add (.var 24) (.wrap .i64 (.var 10)))) (.var 8)) (.lit 125))) 0 hkd) 1))) (.ext (.app 34 37 125 232 (.sl (.var 20) (.lit 0) (.var 22) (.var 23)) (.var 22) (.hp 30 [] [.var 20] []) (.cvs (romCells 11 (.var 6) (.add (.var 7) (.mul (.rem (.wrap .i64 (.add (.var 24) (.wrap .i64 (.var 10)))) (.var 8)) (.lit 125))) 0 hkd) 1)) (.back 0 0 [⟨20, 0, .int .i64 (.var 34)⟩, ⟨22, 0, .int .i64 (.add (.var 22) (.lit 1))⟩, ⟨23, 0, .int .i64 (.var 35)⟩, ⟨24, 0, .int .i64 (.wrap .i64 (.add (.var 24) (.lit 1)))⟩] [(30, some 34)]))))))))))))))) (.imp (.not (.lt (.var 24) (.var 8))) (.and (.inv 2 [⟨34, 0, .int .i64 (.lit 0)⟩] [(40, some 30)]) (.havoc 0 2 31 (.and (.e (.le (.lit 0) (.var 22))) (.and (.imp (.lt (.wrap .i64 (.add (.var 34) (.lit 1))) (.var 22)) (.and (.e (.le (.lit 0) (.var 20))) (.and (.e (.le (.lit 0) (.var 34))) (.and (.e (.lt (.var 34) (.var 22))) (.and (.e (.hks 40 (.var 20) (.mul (.var 34) (.lit 125)) hkd)) (.ext (.alloc 41) (.and (.e (.le (.lit 0) (.wrap .i64 (.add (.var 34) (.lit 1))))) (.and (.e (.hks 40 (.var 20) (.mul (.wrap .i64 (.add (.var 34) (.lit 1))) (.lit 125)) hkd)) (.and (.pre (.put 42 40 (.var 20) (.mul (.var 34) (.lit 125)) (romCells 40 (.var 20) (.mul (.wrap .i64 (.add (.var 34) (.lit 1))) (.lit 125)) 0 hkd))) (.ext (.put 42 40 (.var 20) (.mul (.var 34) (.lit 125)) (romCells 40 (.var 20) (.mul (.wrap .i64 (.add (.var 34) (.lit 1))) (.lit 125)) 0 hkd)) (.and (.pre (.put 43 42 (.var 20) (.mul (.wrap .i64 (.add (.var 34) (.lit 1))) (.lit 125)) (romCells 40 (.var 20) (.mul (.var 34) (.lit 125)) 0 hkd))) (.ext (.put 43 42 (.var 20) (.mul (.wrap .i64 (.add (.var 34) (.lit 1))) (.lit 125)) (romCells 40 (.var 20) (.mul (.var 34) (.lit 125)) 0 hkd)) (.back 0 2 [⟨34, 0, .int .i64 (.wrap .i64 (.add (.var 34) (.lit 2)))⟩] [(40, some 43)]))))))))))))) (.imp (.not (.lt (.wrap .i64 (.add (.var 34) (.lit 1))) (.var 22))) (.and (.pre (.call 2 41 [.sv (.agg (Sx.ckCVs 0 v6s)), .sv (.one (.sl (.var 6) (.var 7) (.var 8) (.var 9)))] [] [.ro 11 [.var 6] true, .ro 11 [.var 6] true])) (.ext (.call 2 41 [.sv (.agg (Sx.ckCVs 0 v6s)), .sv (.one (.sl (.var 6) (.var 7) (.var 8) (.var 9)))] [] [.ro 11 [.var 6] true, .ro 11 [.var 6] true]) (.ext (.alloc 51) (.and (.pre (.call 2 52 [.sv (.agg (Sx.ckCVs 0 v6s)), .sv (.one (.sl (.var 20) (.lit 0) (.var 22) (.var 23)))] [] [.hp 40 [] [.var 20] [], .ro 11 [.var 6] true])) (.ext (.call 2 52 [.sv (.agg (Sx.ckCVs 0 v6s)), .sv (.one (.sl (.var 20) (.lit 0) (.var 22) (.var 23)))] [] [.hp 40 [] [.var 20] [], .ro 11 [.var 6] true]) (.ext (.alloc 62) (.and (.imp (.and (.eq (.var 45) (.var 56)) (.and (.eq (.var 46) (.var 57)) (.and (.eq (.var 47) (.var 58)) (.and (.eq (.var 48) (.var 59)) (.and (.eq (.var 49) (.var 60)) (.eq (.var 50) (.var 61))))))) (.and (.e (.le (.lit 0) (.var 43))) (.and (.e (.le (.lit 0) (.var 54))) (.and (.imp (.not (.eq (.var 43) (.var 54))) (.post [.ro 11 [.var 6] true, .dead, .hp 40 [] [.var 20] [], .hp 41 [] [.var 41] [], .dead, .hp 52 [] [.var 52] [], .dead] (.sv (.one (.bool .ff))))) (.imp (.eq (.var 43) (.var 54)) (.and (.inv 3 [⟨200, 0, .int .i64 (.lit 0)⟩] []) (.havoc 0 3 63 (.and (.imp (.lt (.var 200) (.var 43)) (.and (.e (.le (.lit 0) (.var 41))) (.and (.e (.le (.lit 0) (.var 42))) (.and (.e (.le (.lit 0) (.var 200))) (.and (.e (.hks 41 (.var 41) (.add (.var 42) (.mul (.var 200) (.lit 125))) hkd)) (.and (.e (.le (.lit 0) (.var 52))) (.and (.e (.le (.lit 0) (.var 53))) (.and (.e (.lt (.var 200) (.var 54))) (.and (.e (.hks 52 (.var 52) (.add (.var 53) (.mul (.var 200) (.lit 125))) hkd)) (.and (.pre (.call 3 201 [.sv (.agg (romCells 41 (.var 41) (.add (.var 42) (.mul (.var 200) (.lit 125))) 0 hkd)), .sv (.agg (romCells 52 (.var 52) (.add (.var 53) (.mul (.var 200) (.lit 125))) 0 hkd))] [] [.hp 41 [] [.var 41] [], .hp 52 [] [.var 52] []])) (.ext (.call 3 201 [.sv (.agg (romCells 41 (.var 41) (.add (.var 42) (.mul (.var 200) (.lit 125))) 0 hkd)), .sv (.agg (romCells 52 (.var 52) (.add (.var 53) (.mul (.var 200) (.lit 125))) 0 hkd))] [] [.hp 41 [] [.var 41] [], .hp 52 [] [.var 52] []]) (.and (.imp (.not (.bvar 201)) (.post [.ro 11 [.var 6] true, .dead, .hp 40 [] [.var 20] [], .hp 41 [] [.var 41] [], .dead, .hp 52 [] [.var 52] [], .dead] (.sv (.one (.bool .ff))))) (.imp (.bvar 201) (.back 0 3 [⟨200, 0, .int .i64 (.wrap .i64 (.add (.var 200) (.lit 1)))⟩] [])))))))))))))) (.imp (.not (.lt (.var 200) (.var 43))) (.post [.ro 11 [.var 6] true, .dead, .hp 40 [] [.var 20] [], .hp 41 [] [.var 41] [], .dead, .hp 52 [] [.var 52] [], .dead] (.sv (.one (.bool .tt))))))))))))) (.imp (.not (.and (.eq (.var 45) (.var 56)) (.and (.eq (.var 46) (.var 57)) (.and (.eq (.var 47) (.var 58)) (.and (.eq (.var 48) (.var 59)) (.and (.eq (.var 49) (.var 60)) (.eq (.var 50) (.var 61)))))))) (.post [.ro 11 [.var 6] true, .dead, .hp 40 [] [.var 20] [], .hp 41 [] [.var 41] [], .dead, .hp 52 [] [.var 52] [], .dead] (.sv (.one (.bool .ff))))))))))))))))))))))))))) (.imp (.not (.bvar 13)) (.and (.pre (.call 0 14 [] [] [])) (.ext (.call 0 14 [] [] []) (.post [.ro 11 [.var 6] true, .dead] (.sv (.one (.bool (.bvar 14)))))))))))
noncomputable def tuΓ : List Sx.Spec := [awakeS, fewS, orderS, sameS]
theorem tuΓ_ok : ∀ t ∈ tuΓ, t.OK Try.prog := fun t ht => by
  simp only [tuΓ, List.mem_cons, List.mem_nil_iff, or_false] at ht
  rcases ht with rfl | rfl | rfl | rfl
  · exact awakeS_ok
  · exact fewS_ok
  · exact orderS_ok
  · exact sameS_ok
theorem ug0 : tuΓ[0]? = some awakeS := rfl
theorem ug1 : tuΓ[1]? = some fewS := rfl
theorem ug2 : tuΓ[2]? = some orderS := rfl
theorem ug3 : tuΓ[3]? = some sameS := rfl
theorem ur3 : sameS.res = [.one .bool] := rfl
noncomputable def turnedW : Walk Try.prog tuΓ turnedS.fn where
  Λ := fun p => if eqN p [7, 1, 1, 1, 0, 1, 0] then some ⟨0, [(7, .sv (.one (.sl (.var 20) (.lit 0) (.var 22) (.var 23)))), (8, TI .i64 (.var 24))], [(2, .hp 30 [] [.var 20] [])], 31⟩
    else if eqN p [7, 1, 1, 1, 0, 1, 0, 0, 1, 0, 0, 0, 1, 0] then some ⟨1, [(9, TI .i64 (.var 32))], [], 33⟩
    else if eqN p [7, 1, 1, 1, 1, 0, 1, 0] then some ⟨2, [(10, TI .i64 (.var 34))], [(2, .hp 40 [] [.var 20] [])], 41⟩
    else if eqN p [7, 1, 1, 1, 1, 1, 1, 1, 1, 0, 1, 0] then some ⟨3, [(16, TI .i64 (.var 200))], [], 201⟩ else none
  args := [.sv (.agg (Sx.ckCVs 0 v6s)), .sv (.one (.sl (.var 6) (.var 7) (.var 8) (.var 9))), TI .u8 (.var 10)]
  mem := [.ro 11 [.var 6] true]
  nv := 12
  nd := turnedNd
  ok := by kernel_rfl
def noTwoTo (R : Hl) (rows : List (List Value)) (k : Nat) : Prop := ∀ hs, HdAll R rows hs → ∀ (i j : Nat) (a b : Hd), i < k → j < i → hs[i]? = some a → hs[j]? = some b → ¬ (a.w = b.w ∧ a.seq = b.seq)
def noneOf (R : Hl) (rows : List (List Value)) (i k : Nat) : Prop := ∀ hs, HdAll R rows hs → ∀ (j : Nat) (a b : Hd), j < k → hs[i]? = some a → hs[j]? = some b → ¬ (a.w = b.w ∧ a.seq = b.seq)
def turnedInv (R : Hl) (rows : List (List Value)) (t : Nat) : Nat → Env → Prop
  | 0, q => ∃ (k : Nat) (rr : List (List Value)), q.i 24 = k ∧ k ≤ rows.length ∧ q.i 22 = (rr.length : Int) ∧ -1 ≤ q.i 20 ∧ 0 ≤ q.i 23 ∧ OwR (q.h 30) 37 hkd (rowsL q 20 22 23) rr ∧ Turned rows rr t k ∧ noTwoTo R rows k
  | 1, q => ∃ k i : Nat, q.i 32 = k ∧ q.i 24 = i ∧ k ≤ i ∧ i < rows.length ∧ noneOf R rows i k
  | 2, q => ∃ (k : Nat) (rr : List (List Value)), q.i 34 = k ∧ k ≤ rows.length + 1 ∧ OwR (q.h 40) 37 hkd (rowsL q 20 22 23) rr ∧ rr.length = rows.length ∧ ∀ x, x ∈ rr ↔ x ∈ rows
  | _, q => ∃ k : Nat, q.i 200 = k ∧ (k : Int) ≤ q.i 43
set_option maxRecDepth 20000 in
set_option maxHeartbeats 4000000 in
theorem turnedS_ok : turnedS.OK Try.prog := by
  refine Spec.of_fn (Γ := tuΓ) tuΓ_ok ?_
  rintro xs Hs Rs hl1 hl2 ⟨vv, u, t, R, rows, rfl, rfl, hv6, ht, hRd, hgiv⟩
  have e0 : Hs = [] := List.length_eq_zero_iff.1 hl1
  subst e0
  match vv, hv6 with
  | [a0, a1, a2, a3, a4, a5], _ =>
  obtain ⟨x, y, c, rfl, hy, hrows⟩ := id hRd
  refine ⟨turnedW, envI [a0, a1, a2, a3, a4, a5, x, y, rows.length, c, t] false [Hl.none, Hl.none, Hl.none, Hl.none, Hl.none, Hl.none, Hl.none, Hl.none, Hl.none, Hl.none, Hl.none, R], turnedInv R rows t.toNat, fun j q => if j = 0 then (rows.length - q.i 24).toNat else if j = 1 then (rows.length - q.i 32).toNat else if j = 2 then (rows.length + 2 - q.i 34).toNat else (q.i 43 - q.i 200).toNat, ?_, ⟨?_, ?_, ?_, ?_⟩, (fun _ h => nomatch h), ?_⟩
  · show [vecV [a0, a1, a2, a3, a4, a5], Value.slice (slP x y) ((rows.length : Int)).toNat ((c : Int)).toNat, .int .u8 t] = _
    rw [Int.toNat_natCast, Int.toNat_natCast]
  · intro r hr ho; simp [turnedW] at hr; subst hr; cases ho
  · intro r hr ho; simp [turnedW] at hr; subst hr; exact ⟨R, by simp, Hl.le_refl _⟩
  · simp [turnedW, Res.own]
  · intro r hr; simp [turnedW] at hr; subst hr; trivial
  · show Nd.holds _ _ _ turnedNd
    unfold turnedNd
    generalize hρ : envI [a0, a1, a2, a3, a4, a5, x, y, rows.length, c, t] false [Hl.none, Hl.none, Hl.none, Hl.none, Hl.none, Hl.none, Hl.none, Hl.none, Hl.none, Hl.none, Hl.none, R] = ρ
    have v0 : vecQ ρ 0 = [a0, a1, a2, a3, a4, a5] := by rw [← hρ]; rfl
    have v6 : ρ.i 6 = x := by rw [← hρ]; rfl
    have v7 : ρ.i 7 = y := by rw [← hρ]; rfl
    have v8 : ρ.i 8 = rows.length := by rw [← hρ]; rfl
    have v9 : ρ.i 9 = c := by rw [← hρ]; rfl
    have v10 : ρ.i 10 = t := by rw [← hρ]; rfl
    have w11 : ρ.h 11 = R := by rw [← hρ]; rfl
    clear hρ
    generalize hV : [a0, a1, a2, a3, a4, a5] = V at *
    have hV6 : V.length = 6 := by rw [← hV]; rfl
    have yes : ∀ (q : Env) (mem : Mem) (e : E), bev q e = true → postOf turnedS [vecV V, .slice (slP x y) rows.length c, .int .u8 t] [] [R] q mem (.sv (.one (.bool e))) := fun q mem e he =>
      outOf rfl (v := .bool true) (by show Value.bool (bev q e) = _; rw [he]) (shB rfl _) rfl
    have vag : ∀ {q q' : Env} {n m : Nat}, Agree m q q' → n + 6 ≤ m → vecQ q' n = vecQ q n := by
      intro q q' n m a h
      unfold vecQ
      rw [a.i n (by omega), a.i (n + 1) (by omega), a.i (n + 2) (by omega), a.i (n + 3) (by omega), a.i (n + 4) (by omega), a.i (n + 5) (by omega)]
    simp only [Nd.holds, X.pre, X.rel, X.n, Src.ok, Src.len, Src.vals, true_and, and_true, if_true, Nat.mul_one, Nat.add_zero, Nat.reduceAdd, List.length_cons, List.length_nil, bT_tt, bT_ff, bT_bvar, bT_not, bT_and, bT_or, bT_ite, bT_lt, bT_le, bT_eq, bT_beq, bT_seq, bT_hB, bT_his, bT_hby, bT_hism, bT_hks, iev_lit, iev_var, iev_add, iev_sub, iev_mul, iev_wrap, iev_ite, iev_hI, iev_hP, iev_hmlen, sev_ite, sev_slit, sev_sof, sev_svar, TV.ev, SV.ev, CV.ev, List.map_cons, List.map_nil, Res.hl, cpTV, Cp.sv, Ck.cv, cpSVs, Cp.len, Ck.len, newHs_zero, newHs_one, roots_ne, ug0, ug1, ug2, ug3, sr0, sr1, sr2, ur3, ar0, ar1, sc2]
    intro q1 g1 _
    have awk : ∀ (q' : Env) (n : Nat) {F : Hl}, awakeS.post [] [] [] (Value.bool (bev q' (E.bvar n))) [] F → bev q' (E.bvar n) = true := by
      intro q' n F h
      have h : Value.bool (bev q' (E.bvar n)) = .bool true := h
      simpa using h
    have lq : ∀ q', Agree 12 ρ q' → Value.slice (slP (q'.i 6) (q'.i 7)) (q'.i 8).toNat (q'.i 9).toNat = .slice (slP x y) rows.length c := by
      intro q' a
      rw [a.i 6 (by omega), a.i 7 (by omega), a.i 8 (by omega), a.i 9 (by omega), v6, v7, v8, v9, Int.toNat_natCast, Int.toNat_natCast]
    refine ⟨rfl, fun q2 g2 ⟨F2, hp2, _, _⟩ => ?_⟩
    have hb2 : q2.b 13 = true := awk q2 13 hp2
    have P2 : Agree 12 ρ q2 := g1.trans (g2.mono (by omega))
    rw [hb2, lq q2 P2, P2.h 11 (by omega), w11]
    refine ⟨fun _ => ⟨⟨_, 20, R, rows, rfl, rfl, hRd⟩, fun q3 g3 ⟨F3, ⟨u3, n3, R3, rows3, b3, hx3, hR3, hRd3, hv3, hb3⟩, _, _⟩ => ?_⟩, fun h => absurd rfl h⟩
    have hx3 : Value.slice (slP x y) rows.length c = u3 ∧ 20 = n3 := by
      have h1 : [Value.slice (slP x y) rows.length c, Value.int .i64 20] = [u3, .int .i64 n3] := hx3
      simpa using h1
    obtain ⟨ha, hb⟩ := hx3
    subst ha hb
    have hR3 : R = R3 := by simpa using hR3
    subst hR3
    have e := hRd.uniq hRd3
    subst e
    have hv3 : q3.b 14 = b3 := by
      have h1 : Value.bool (q3.b 14) = .bool b3 := hv3
      simpa using h1
    rw [hv3]
    have P3 : Agree 12 ρ q3 := P2.trans (g3.mono (by omega))
    refine ⟨fun _ => ⟨rfl, fun q4 g4 ⟨F4, hp4, _, _⟩ => yes q4 _ _ (awk q4 15 hp4)⟩, fun hb => ?_⟩
    obtain ⟨hl20, hfew⟩ := hb3 hb (by decide)
    obtain ⟨hs, hAll⟩ := hdAll_of fun row hr => hgiv row hr (hfew row hr)
    have hhs : rows.length = hs.length := hAll.1
    refine ⟨⟨0, [], rfl, Nat.zero_le _, rfl, Int.le_refl _, Int.le_refl _, OwR.nil _ _ _, ⟨rfl, fun j hj => absurd hj (Nat.not_lt_zero _)⟩, fun _ _ i j a b hi => absurd hi (Nat.not_lt_zero _)⟩, fun q g hI => ?_⟩
    obtain ⟨k, rr, i24, hk, i22, i20, i23, hO, hT, hN⟩ := hI
    have P : Agree 12 ρ q := P3.trans (g.mono (by omega))
    rw [P.i 8 (by omega), v8, i24]
    refine ⟨by omega, fun hlt => ⟨⟨0, k, rfl, i24, Nat.zero_le _, by omega, fun _ _ j a b hj => absurd hj (Nat.not_lt_zero _)⟩, fun qa ga hIa => ?_⟩, fun hge => ?_⟩
    · obtain ⟨k1, k0, i32, i24a, hk1, hk0, hN1⟩ := hIa
      have e : k0 = k := by
        have := ga.i 24 (by omega)
        omega
      subst e
      have Pa : Agree 12 ρ qa := P.trans (ga.mono (by omega))
      rw [i32, i24a, Pa.i 6 (by omega), v6, Pa.i 7 (by omega), v7, Pa.h 11 (by omega), w11, Pa.i 8 (by omega), v8]
      have cellR : ∀ (i : Nat) (row : List Value), rows[i]? = some row → 0 ≤ x ∧ rowOK row hkd ∧ ∀ j u, row[j]? = some u → R.cell x.toNat ((y + (i : Int) * 125).toNat + j) = some u := by
        intro i row hr
        rcases hrows with h | ⟨hx0, hr'⟩
        · rw [h] at hr; simp at hr
        · refine ⟨hx0, (hr' i row hr).1, fun j u hu => ?_⟩
          rw [← (hr' i row hr).2 j u hu, hkd_len]; congr 1; omega
      have rowAt : ∀ i, i < rows.length → ∃ row h, rows[i]? = some row ∧ hs[i]? = some h ∧ IsHd R row h := by
        intro i hi
        obtain ⟨h, hh, xh⟩ := hAll.at (List.getElem?_eq_getElem hi)
        exact ⟨_, h, List.getElem?_eq_getElem hi, hh, xh⟩
      have d01 : ∀ {i : Nat} {row : List Value} {h : Hd}, rows[i]? = some row → IsHd R row h → R.cell x.toNat (y + (i : Int) * 125).toNat = some (.int .i64 h.w) ∧ R.cell x.toNat (y + (i : Int) * 125 + 1).toNat = some (.int .u64 h.seq) := by
        intro i row h hr xh
        obtain ⟨_, _, cr⟩ := cellR i row hr
        obtain ⟨w0, w1⟩ := hd_ws xh
        have c0 := cr 0 _ w0
        have c1 := cr 1 _ w1
        rw [Nat.add_zero] at c0
        exact ⟨c0, by rw [← c1]; congr 1; omega⟩
      refine ⟨fun hlt1 => ?_, fun hge1 => ?_⟩
      · obtain ⟨rowA, hA, hrA, hhA, xA⟩ := rowAt k0 hk0
        obtain ⟨rowB, hB, hrB, hhB, xB⟩ := rowAt k1 (by omega)
        obtain ⟨a0', a1'⟩ := d01 hrA xA
        obtain ⟨b0', b1'⟩ := d01 hrB xB
        obtain ⟨hx0, _, _⟩ := cellR k0 rowA hrA
        rw [a0', a1', b0', b1']
        have bk : ¬ (hA.w = hB.w ∧ hA.seq = hB.seq) → turnedInv R rows t.toNat 1 (assign qa [⟨32, 0, .int .i64 (.wrap .i64 (.add (.var 32) (.lit 1)))⟩] []) ∧ (assign qa [⟨32, 0, .int .i64 (.wrap .i64 (.add (.var 32) (.lit 1)))⟩] []).i 32 = k1 + 1 := by
          intro hne
          have e32 : (assign qa [⟨32, 0, .int .i64 (.wrap .i64 (.add (.var 32) (.lit 1)))⟩] []).i 32 = k1 + 1 := by
            show IntKind.i64.wrap (qa.i 32 + 1) = _
            rw [i32, wrap_i64 (by omega) (by omega)]
          refine ⟨⟨k1 + 1, k0, by rw [e32]; omega, i24a, by omega, hk0, fun hs' a' j a b hj h1 h2 => ?_⟩, e32⟩
          rcases (by omega : j < k1 ∨ j = k1) with h | h
          · exact hN1 hs' a' j a b h h1 h2
          · subst h
            have e := hAll.uniq a'
            subst e
            rw [hhA] at h1
            rw [hhB] at h2
            cases h1; cases h2
            exact hne
        refine ⟨hx0, hy, by omega, rfl, by omega, by omega, rfl, fun e1 => ⟨rfl, rfl, fun e2 => yes qa _ _ rfl, fun e2 => ?_⟩, fun e1 => ?_⟩
        · have := bk (fun h => e2 h.2)
          refine ⟨this.1, ?_⟩
          rw [if_neg (by decide), if_neg (by decide), this.2]; omega
        · have := bk (fun h => e1 h.1)
          refine ⟨this.1, ?_⟩
          rw [if_neg (by decide), if_neg (by decide), this.2]; omega
      · have ek : k1 = k0 := by omega
        subst ek
        have hT' : (k1 + t.toNat) % rows.length < rows.length := Nat.mod_lt _ (by omega)
        obtain ⟨rowT, hTd, hrT, hhT, xT⟩ := rowAt _ hT'
        obtain ⟨hx0, okT, crT⟩ := cellR _ rowT hrT
        have emod : ∀ q', Agree 31 qa q' → iev q' ((E.wrap .i64 ((E.var 24).add (E.wrap .i64 (E.var 10)))).rem (E.var 8)) = (((k1 + t.toNat) % rows.length : Nat) : Int) := by
          intro q' a
          have Pq : Agree 12 ρ q' := Pa.trans (a.mono (by omega))
          show (IntKind.i64.wrap (q'.i 24 + IntKind.i64.wrap (q'.i 10))).tmod (q'.i 8) = _
          rw [Pq.i 10 (by omega), v10, Pq.i 8 (by omega), v8, a.i 24 (by omega), i24a, wrap_i64 (n := t) (by omega) (by omega), wrap_i64 (by omega) (by omega), show (k1 : Int) + t = ((k1 + t.toNat : Nat) : Int) by omega]
          rfl
        rw [emod qa (Agree.refl _ _)]
        generalize hm : (k1 + t.toNat) % rows.length = m at *
        refine ⟨by omega, hx0, hy, by omega, by omega, rowIs_of _ okT crT, fun q5 g5 _ => ?_⟩
        have A5 : Agree 31 qa q5 := g5.mono (by omega)
        have B5 : Agree 31 q q5 := ga.trans A5
        have P5 : Agree 12 ρ q5 := Pa.trans (A5.mono (by omega))
        have erow : List.map (CV.ev q5) (romCells 11 (.var 6) (.add (.var 7) (.mul (.rem (.wrap .i64 (.add (.var 24) (.wrap .i64 (.var 10)))) (.var 8)) (.lit 125))) 0 hkd) = rowT := by
          refine romCells_row rowT hkd 0 okT fun j u hu => ?_
          rw [iev_add, iev_mul, emod q5 A5]
          simp only [iev_var, iev_lit]
          rw [P5.h 11 (by omega), w11, P5.i 6 (by omega), v6, P5.i 7 (by omega), v7, Nat.zero_add]
          exact crT j u hu
        have hrl : rr.length = k1 := hT.1
        rw [erow, B5.h 30 (by omega), B5.i 20 (by omega), B5.i 22 (by omega), B5.i 23 (by omega)]
        refine ⟨⟨⟨_, hO.pre i22⟩, by omega, by unfold maxLen; omega, by omega⟩, fun q6 g6 ⟨b1, b2, b3, _⟩ => ?_⟩
        have B6 : Agree 31 q q6 := B5.trans (g6.mono (by omega))
        have e24 : IntKind.i64.wrap (q6.i 24 + 1) = k1 + 1 := by
          rw [B6.i 24 (by omega), i24, wrap_i64 (by omega) (by omega)]
        refine ⟨⟨k1 + 1, rr ++ [rowT], ?_, by omega, ?_, b1, b2, ?_, ?_, ?_⟩, ?_⟩
        · show IntKind.i64.wrap (q6.i 24 + 1) = _
          rw [e24]; omega
        · show q6.i 22 + 1 = _
          rw [B6.i 22 (by omega), i22, List.length_append, List.length_singleton]; omega
        · show OwR (q6.h 34) _ hkd (.slice (slP (q6.i 34) 0) (q6.i 22 + 1).toNat (q6.i 35).toNat) (rr ++ [rowT])
          rw [B6.i 22 (by omega)]
          exact OwR.app hO i22 okT b3
        · exact hT.snoc (by rw [hm]; exact hrT)
        · intro hs' a' i j a b hi hj h1 h2
          rcases (by omega : i < k1 ∨ i = k1) with h | h
          · exact hN hs' a' i j a b h hj h1 h2
          · subst h
            exact hN1 hs' a' j a b hj h1 h2
        · show ((rows.length : Int) - IntKind.i64.wrap (q6.i 24 + 1)).toNat < _
          rw [e24, if_neg (by decide)]; omega
    · have hkl : k = rows.length := by omega
      rw [hkl] at hT hN
      have nd : NoTwo hs := fun i j a b hj h1 h2 => hN hs hAll i j a b (by have := (List.getElem?_eq_some_iff.1 h1).1; omega) hj h1 h2
      refine ⟨⟨0, rr, rfl, by omega, hO, hT.1, hT.mem⟩, fun qb gb hIb => ?_⟩
      obtain ⟨k2, rr2, i34, hk2, hO2, hl2, hm2⟩ := hIb
      have Pb : Agree 12 ρ qb := P.trans (gb.mono (by omega))
      have i22b : qb.i 22 = rows.length := by rw [gb.i 22 (by omega), i22, hT.1]
      have i20b : -1 ≤ qb.i 20 := by rw [gb.i 20 (by omega)]; exact i20
      have i23b : 0 ≤ qb.i 23 := by rw [gb.i 23 (by omega)]; exact i23
      rw [i22b, i34]
      refine ⟨by omega, fun hlt2 => ?_, fun hge2 => ?_⟩
      · rw [wrap_i64 (by omega) (by omega)] at hlt2
        obtain ⟨rowA, hrA⟩ : ∃ r, rr2[k2]? = some r := ⟨_, List.getElem?_eq_getElem (by omega)⟩
        obtain ⟨rowB, hrB⟩ : ∃ r, rr2[k2 + 1]? = some r := ⟨_, List.getElem?_eq_getElem (by omega)⟩
        obtain ⟨x0, okA, cA⟩ := own_rows hO2 i20b hrA
        obtain ⟨_, okB, cB⟩ := own_rows hO2 i20b hrB
        have cA' : ∀ j u, rowA[j]? = some u → (qb.h 40).cell (qb.i 20).toNat (((k2 : Int) * 125).toNat + j) = some u := fun j u hu => by
          rw [← cA j u hu, hkd_len]; congr 1 <;> omega
        have cB' : ∀ j u, rowB[j]? = some u → (qb.h 40).cell (qb.i 20).toNat ((((k2 : Int) + 1) * 125).toNat + j) = some u := fun j u hu => by
          rw [← cB j u hu, hkd_len]; congr 1 <;> omega
        have ew : IntKind.i64.wrap ((k2 : Int) + 1) = (k2 : Int) + 1 := wrap_i64 (by omega) (by omega)
        obtain ⟨w1, hO3⟩ := OwR.write (i := k2) (row := rowB) hO2 (by omega) i20b okB
        have hrA3 : (rr2.set k2 rowB)[k2 + 1]? = some rowB := by rw [List.getElem?_set_ne (by omega)]; exact hrB
        obtain ⟨w2, hO4⟩ := OwR.write (i := k2 + 1) (row := rowA) hO3 (by rw [List.length_set]; omega) i20b okA
        rw [hkd_len] at w1 w2 hO3 hO4
        have n1 : ((k2 : Int) * 125).toNat = k2 * 125 := by omega
        have n2 : (((k2 : Int) + 1) * 125).toNat = (k2 + 1) * 125 := by omega
        refine ⟨x0, by omega, by omega, rowIs_of _ okA cA', fun q5 g5 _ => ?_⟩
        rw [g5.i 34 (by omega), i34, g5.i 20 (by omega), g5.h 40 (by omega), romCells_length, ew, n1]
        have er : ∀ q' (j : Nat) (row : List Value) (Y : E), Agree 41 qb q' → rowOK row hkd → (iev q' Y).toNat = j → (∀ i u, row[i]? = some u → (qb.h 40).cell (qb.i 20).toNat (j + i) = some u) → List.map (CV.ev q') (romCells 40 (.var 20) Y 0 hkd) = row := by
          intro q' j row Y a ok hY hc
          refine romCells_row row hkd 0 ok fun i u hu => ?_
          rw [hY, iev_var, a.h 40 (by omega), a.i 20 (by omega), Nat.zero_add]
          exact hc i u hu
        have yv : ∀ q', Agree 41 qb q' → iev q' (.mul (.wrap .i64 (.add (.var 34) (.lit 1))) (.lit 125)) = ((k2 : Int) + 1) * 125 := by
          intro q' a
          show IntKind.i64.wrap (q'.i 34 + 1) * 125 = _
          rw [a.i 34 (by omega), i34, ew]
        have yu : ∀ q', Agree 41 qb q' → iev q' (.mul (.var 34) (.lit 125)) = (k2 : Int) * 125 := by
          intro q' a
          show q'.i 34 * 125 = _
          rw [a.i 34 (by omega), i34]
        rw [er q5 _ rowB _ g5 okB (by rw [yv q5 g5]) cB']
        refine ⟨by omega, rowIs_of _ okB cB', ⟨x0, by omega, w1⟩, fun q6 g6 h42 => ?_⟩
        have A6 : Agree 41 qb q6 := g5.trans (g6.mono (by omega))
        rw [er q6 _ rowA _ A6 okA (by rw [yu q6 A6]) cA', romCells_length, A6.i 34 (by omega), i34, A6.i 20 (by omega), ew, n2, h42]
        refine ⟨⟨x0, by omega, w2⟩, fun q7 g7 h43 => ?_⟩
        have A7 : Agree 41 qb q7 := A6.trans (g7.mono (by omega))
        have e34 : IntKind.i64.wrap (q7.i 34 + 2) = k2 + 2 := by
          rw [A7.i 34 (by omega), i34, wrap_i64 (by omega) (by omega)]
        refine ⟨⟨k2 + 2, (rr2.set k2 rowB).set (k2 + 1) rowA, ?_, by omega, ?_, ?_, fun z => (mem_swap hrA hrB z).trans (hm2 z)⟩, ?_⟩
        · show IntKind.i64.wrap (q7.i 34 + 2) = _
          rw [e34]; omega
        · show OwR (q7.h 43) _ hkd (.slice (slP (q7.i 20) 0) (q7.i 22).toNat (q7.i 23).toNat) _
          rw [h43, A7.i 20 (by omega), A7.i 22 (by omega), A7.i 23 (by omega)]
          exact hO4
        · rw [List.length_set, List.length_set]; exact hl2
        · rw [if_neg (by decide), if_neg (by decide), if_neg (by decide), if_neg (by decide)]
          show ((rows.length : Int) + 2 - IntKind.i64.wrap (q7.i 34 + 2)).toNat < _
          rw [e34]; omega
      · obtain ⟨hs', hAll', hmm⟩ := hdAll_mem hAll hm2
        have eVb : ∀ q', Agree 12 ρ q' → List.map (CV.ev q') (Sx.ckCVs 0 v6s) = V.map (Value.int .u64) := by
          intro q' a
          have e : vecQ q' 0 = V := by rw [vag a (by omega), v0]
          rw [← e]; rfl
        have eB : ∀ q', Agree 31 qb q' → q'.h 40 = qb.h 40 → OwR (q'.h 40) 37 hkd (.slice (slP (q'.i 20) 0) (q'.i 22).toNat (q'.i 23).toNat) rr2 := by
          intro q' a h
          rw [h, a.i 20 (by omega), a.i 22 (by omega), a.i 23 (by omega)]
          exact hO2
        rw [eVb qb Pb, lq qb Pb, Pb.h 11 (by omega), w11]
        refine ⟨⟨V, _, R, R, rows, hs, rfl, rfl, hV6, hRd, hAll, by omega⟩, fun q4 g4 ⟨F4, hp4, hF4, ⟨n41, n42, n43, n44⟩, _⟩ => fun q5 g5 _ => ?_⟩
        have hF4 := hF4 trivial
        obtain ⟨s4, out, outRows, v', _, hr4, hC, hfin, hOr, hOa⟩ := order_post (v := V) hRd hAll hp4
        have hr4 : Value.tuple #[Value.slice (slP (q4.i 41) (q4.i 42)) (q4.i 43).toNat (q4.i 44).toNat, vecV (vecQ q4 45)] = .tuple #[s4, vecV v'] := hr4
        have hr4 : Value.slice (slP (q4.i 41) (q4.i 42)) (q4.i 43).toNat (q4.i 44).toNat = s4 ∧ vecV (vecQ q4 45) = vecV v' := by simpa using hr4
        obtain ⟨hs4, hv4⟩ := hr4
        have hv4 := vecV_inj hv4
        subst hs4
        subst hv4
        rw [← hF4] at hOr hOa
        have P4 : Agree 12 ρ q4 := Pb.trans (g4.mono (by omega))
        have P5 : Agree 12 ρ q5 := P4.trans (g5.mono (by omega))
        have A5 : Agree 41 qb q5 := g4.trans (g5.mono (by omega))
        have hO5 := eB q5 (A5.mono (by omega)) (A5.h 40 (by omega))
        rw [eVb q5 P5, P5.h 11 (by omega), w11]
        refine ⟨⟨V, _, _, R, rr2, hs', rfl, rfl, hV6, hO5.rd, hAll', by omega⟩, fun q6 g6 ⟨F6, hp6, hF6, ⟨n52, n53, n54, n55⟩, _⟩ => fun q7 g7 _ => ?_⟩
        have hF6 := hF6 trivial
        obtain ⟨s6, out6, outRows6, v6', _, hr6, hC6, hfin6, hOr6, hOa6⟩ := order_post (v := V) hO5.rd hAll' hp6
        have hr6 : Value.tuple #[Value.slice (slP (q6.i 52) (q6.i 53)) (q6.i 54).toNat (q6.i 55).toNat, vecV (vecQ q6 56)] = .tuple #[s6, vecV v6'] := hr6
        have hr6 : Value.slice (slP (q6.i 52) (q6.i 53)) (q6.i 54).toNat (q6.i 55).toNat = s6 ∧ vecV (vecQ q6 56) = vecV v6' := by simpa using hr6
        obtain ⟨hs6, hv6'⟩ := hr6
        have hv6' := vecV_inj hv6'
        subst hs6
        subst hv6'
        rw [← hF6] at hOr6 hOa6
        obtain ⟨eo, ev⟩ := hC.same hmm nd hfin hC6 hfin6
        subst eo
        have n41 : -1 ≤ q4.i 41 := n41
        have n42 : 0 ≤ q4.i 42 := n42
        have n43 : 0 ≤ q4.i 43 := n43
        have n52 : -1 ≤ q6.i 52 := n52
        have n53 : 0 ≤ q6.i 53 := n53
        have n54 : 0 ≤ q6.i 54 := n54
        obtain ⟨e43, hat4⟩ := rd_at hOr n41 n42 n43
        obtain ⟨e54, hat6⟩ := rd_at hOr6 n52 n53 n54
        rw [hOa.1] at e43
        rw [hOa6.1] at e54
        have A7 : Agree 51 q4 q7 := g5.trans ((g6.mono (by omega)).trans (g7.mono (by omega)))
        have B7 : Agree 62 q6 q7 := g7
        have six : vecQ q7 45 = vecQ q7 56 := by rw [vag A7 (by omega), ev, vag B7 (by omega)]
        have six : q7.i 45 = q7.i 56 ∧ q7.i 46 = q7.i 57 ∧ q7.i 47 = q7.i 58 ∧ q7.i 48 = q7.i 59 ∧ q7.i 49 = q7.i 60 ∧ q7.i 50 = q7.i 61 := by
          unfold vecQ at six
          simpa using six
        rw [A7.i 43 (by omega), e43, B7.i 54 (by omega), e54]
        have hl20' := hC.few hV6
        refine ⟨fun _ => ⟨by omega, by omega, fun h => absurd rfl h, fun _ => ⟨⟨0, rfl, ?_⟩, fun qc gc hIc => ?_⟩⟩, fun h => absurd six h⟩
        · show (0 : Int) ≤ q7.i 43
          rw [A7.i 43 (by omega), e43]; omega
        obtain ⟨k3, i200, hk3⟩ := hIc
        have Ac : Agree 51 q4 qc := A7.trans (gc.mono (by omega))
        have Bc : Agree 62 q6 qc := B7.trans (gc.mono (by omega))
        rw [Ac.i 43 (by omega), e43] at hk3
        rw [Ac.i 41 (by omega), Ac.i 42 (by omega), Ac.i 43 (by omega), Ac.h 41 (by omega), Bc.i 52 (by omega), Bc.i 53 (by omega), Bc.i 54 (by omega), Bc.h 52 (by omega), e43, e54, i200]
        refine ⟨fun hlt3 => ?_, fun _ => yes qc _ _ rfl⟩
        obtain ⟨ra, hra⟩ : ∃ r, outRows[k3]? = some r := ⟨_, List.getElem?_eq_getElem (by rw [hOa.1]; omega)⟩
        obtain ⟨rb, hrb⟩ : ∃ r, outRows6[k3]? = some r := ⟨_, List.getElem?_eq_getElem (by rw [hOa6.1]; omega)⟩
        obtain ⟨h3, hh3, xa⟩ := hOa.at hra
        have xb := hOa6.2 k3 rb h3 hrb hh3
        obtain ⟨pa, oka, ca⟩ := hat4 k3 ra hra
        obtain ⟨pb, okb, cb⟩ := hat6 k3 rb hrb
        have ca' : ∀ j u, ra[j]? = some u → (q4.h 41).cell (q4.i 41).toNat ((q4.i 42 + (k3 : Int) * 125).toNat + j) = some u := fun j u hu => by
          rw [← ca j u hu, hkd_len]; congr 1; omega
        have cb' : ∀ j u, rb[j]? = some u → (q6.h 52).cell (q6.i 52).toNat ((q6.i 53 + (k3 : Int) * 125).toNat + j) = some u := fun j u hu => by
          rw [← cb j u hu, hkd_len]; congr 1; omega
        have era : List.map (CV.ev qc) (romCells 41 (.var 41) (.add (.var 42) (.mul (.var 200) (.lit 125))) 0 hkd) = ra := by
          refine romCells_row ra hkd 0 oka fun j u hu => ?_
          simp only [iev_var, iev_add, iev_mul, iev_lit]
          rw [Ac.h 41 (by omega), Ac.i 41 (by omega), Ac.i 42 (by omega), i200, Nat.zero_add]
          exact ca' j u hu
        have erb : List.map (CV.ev qc) (romCells 52 (.var 52) (.add (.var 53) (.mul (.var 200) (.lit 125))) 0 hkd) = rb := by
          refine romCells_row rb hkd 0 okb fun j u hu => ?_
          simp only [iev_var, iev_add, iev_mul, iev_lit]
          rw [Bc.h 52 (by omega), Bc.i 52 (by omega), Bc.i 53 (by omega), i200, Nat.zero_add]
          exact cb' j u hu
        rw [era, erb]
        refine ⟨pa, n42, by omega, rowIs_of _ oka ca', pb, n53, by omega, rowIs_of _ okb cb', ⟨ra, rb, h3, _, _, rfl, rfl, xa, xb⟩, fun q8 g8 ⟨F8, hp8, _, _⟩ => ?_⟩
        have hb8 : q8.b 201 = true := by
          have h1 : Value.bool (q8.b 201) = .bool true := hp8
          simpa using h1
        rw [hb8]
        refine ⟨fun h => absurd rfl h, fun _ => ?_⟩
        have e200 : IntKind.i64.wrap (q8.i 200 + 1) = k3 + 1 := by
          rw [g8.i 200 (by omega), i200, wrap_i64 (by omega) (by omega)]
        have e43' : q8.i 43 = out.length := by rw [g8.i 43 (by omega), Ac.i 43 (by omega), e43]
        refine ⟨⟨k3 + 1, ?_, ?_⟩, ?_⟩
        · show IntKind.i64.wrap (q8.i 200 + 1) = _
          rw [e200]; omega
        · show ((k3 + 1 : Nat) : Int) ≤ q8.i 43
          rw [e43']; omega
        · simp only [show ((3 : Nat) = 0) = False by decide, show ((3 : Nat) = 1) = False by decide, show ((3 : Nat) = 2) = False by decide, if_false]
          show (q8.i 43 - IntKind.i64.wrap (q8.i 200 + 1)).toNat < _
          rw [e200, e43']; omega
end Go.Proofs.Ytnlejejjeilpoaa.V2
