/- Layer 8: what is opened is what the reference tells of the sectors; law08.CellsOpens, as a contract. Condition: bytes below 256. -/
import Derived.Test.YtnpepkjfeadbjaaCelT
set_option linter.unusedSimpArgs false
set_option linter.unusedVariables false
set_option linter.constructorNameAsVariable false
namespace Go.Proofs.Ytnpepkjfeadbjaa
open Go Go.Sx

theorem flat_rows (D : DM) (frm : Int) (h0 : 0 ≤ frm) : ∀ k : Nat, (rowsOf D frm k).flatten = (D.now.drop (64 * frm.toNat)).take (64 * k)
  | 0 => by simp [rowsOf]
  | k + 1 => by
    rw [rowsOf_succ, List.flatten_append, flat_rows D frm h0 k, show 64 * (k + 1) = 64 * k + 64 by omega, List.take_add, List.drop_drop]
    simp only [List.flatten_cons, List.flatten_nil, List.append_nil]
    unfold DM.sector
    rw [show 64 * frm.toNat + 64 * k = 64 * (frm + k).toNat by omega]
theorem rowsOf_get (D : DM) (frm : Int) (n j : Nat) (h : j < n) : (rowsOf D frm n)[j]? = some (D.sector (frm + j)) := by
  unfold rowsOf
  rw [List.getElem?_map, List.getElem?_range h]; rfl
theorem rowsOf_drop (D : DM) (frm : Int) (n : Nat) : (rowsOf D frm (n + 2)).drop 2 = rowsOf D (frm + 2) n := by
  apply List.ext_getElem?
  intro j
  rw [List.getElem?_drop]
  rcases Nat.lt_or_ge j n with h | h
  · rw [rowsOf_get D frm (n + 2) (2 + j) (by omega), rowsOf_get D (frm + 2) n j h]
    congr 2; omega
  · rw [List.getElem?_eq_none (by rw [rowsOf_length]; omega), List.getElem?_eq_none (by rw [rowsOf_length]; omega)]
theorem rowsOf_take (D : DM) (frm : Int) (n m : Nat) (h : m ≤ n) : (rowsOf D frm n).take m = rowsOf D frm m := by
  apply List.ext_getElem?
  intro j
  rw [List.getElem?_take]
  split
  · rw [rowsOf_get D frm n j (by omega), rowsOf_get D frm m j (by omega)]
  · rw [List.getElem?_eq_none (by rw [rowsOf_length]; omega)]
section
variable {D : DM} (h : Sure D) {frm : Int} {n : Nat} (h0 : 0 ≤ frm) (h3 : 3 ≤ n) (hn : frm + n ≤ D.n)
include h h0 h3 hn
theorem of_open : ofH (rowsOf D frm n) = openH D frm n := by
  have em : mostOf (rowsOf D frm n) = 64 * ((n : Int) - 2) := by unfold mostOf; rw [rowsOf_length]
  have hm : 0 ≤ 64 * ((n : Int) - 2) := by omega
  have hh : ∀ p : Int, 0 ≤ p → p < 2 → D.has (frm + p) = true := fun p a b => by unfold DM.has; simp only [decide_eq_true_eq]; omega
  have hl : ∀ p : Int, 0 ≤ p → p < 2 → (D.sector (frm + p)).length = 64 := fun p a b => sector_length h.ok (hh p a b)
  have hr : ∀ p : Int, 0 ≤ p → p < 2 → (lreadR D frm (64 * ((n : Int) - 2)) p).1 = (refH (D.sector (frm + p)) p (64 * ((n : Int) - 2))).1 := fun p a b => by
    rw [lread_sector h (hh p a b)]
    unfold refH
    split <;> rfl
  have g0 : (rowsOf D frm n).getD 0 [] = D.sector (frm + 0) := by rw [List.getD_eq_getElem?_getD, rowsOf_get D frm n 0 (by omega)]; rfl
  have g1 : (rowsOf D frm n).getD 1 [] = D.sector (frm + 1) := by rw [List.getD_eq_getElem?_getD, rowsOf_get D frm n 1 (by omega)]; rfl
  obtain ⟨okA, _⟩ := refH_ok (hl 0 (by omega) (by omega)) 0 hm
  obtain ⟨okB, _⟩ := refH_ok (hl 1 (by omega) (by omega)) 1 hm
  unfold ofH openH
  rw [em, g0, g1, hr 0 (by omega) (by omega), hr 1 (by omega) (by omega)]
  obtain ⟨A, hA⟩ : ∃ A, A = refH (D.sector (frm + 0)) 0 (64 * ((n : Int) - 2)) := ⟨_, rfl⟩
  obtain ⟨B, hB⟩ : ∃ B, B = refH (D.sector (frm + 1)) 1 (64 * ((n : Int) - 2)) := ⟨_, rfl⟩
  rw [← hA, ← hB]
  rw [← hA] at okA
  rw [← hB] at okB
  have zA : A.2 = false → A.1.getD 0 0 = 0 := by
    intro h
    unfold refH at hA
    split at hA
    · rw [hA] at h; cases h
    · rw [hA]; rfl
  have zB : B.2 = false → B.1.getD 0 0 = 0 := by
    intro h
    unfold refH at hB
    split at hB
    · rw [hB] at h; cases h
    · rw [hB]; rfl
  have oB : B.2 = true → B.1.getD 0 0 ≠ 0 := by
    intro h hz
    unfold refH at hB
    split at hB
    · rename_i hg
      have := hg.2.1
      rw [hB] at hz
      have hz : bigI ((D.sector (frm + 1)).take 32 |>.take 8) = 0 := hz
      rw [hz] at this
      cases this
    · rw [hB] at h; cases h
  have a0 := okA.2.1.1
  have b0 := okB.2.1.1
  by_cases hlt : A.1.getD 0 0 < B.1.getD 0 0
  · have hb : B.2 = true := by
      cases hb : B.2 with
      | true => rfl
      | false => have := zB hb; omega
    rw [if_pos hlt, if_pos ⟨hb, Or.inr hlt⟩]
  · rw [if_neg hlt, if_neg]
    rintro ⟨hb, ha | ha⟩
    · have := zA ha
      have := oB hb
      omega
    · exact hlt ha
theorem ofB_open : ofB (rowsOf D frm n) = openB D frm n := by
  have hs : (openL D frm n).size = (openH D frm n).getD 1 0 := rfl
  have hle : (openH D frm n).getD 1 0 ≤ 64 * ((n : Int) - 2) := by
    unfold openH
    split
    · exact (lread_head h.ok frm (by omega) 1).2
    · exact (lread_head h.ok frm (by omega) 0).2
  unfold ofB openB bytesAt
  rw [of_open h h0 h3 hn, hs]
  obtain ⟨k, rfl⟩ : ∃ k, n = k + 2 := ⟨n - 2, by omega⟩
  rw [rowsOf_drop, flat_rows D (frm + 2) (by omega), List.take_take]
  congr 1
  omega
end
/-- Bytes of a disk below 256. -/
theorem splice_mem {l m : List Int} {o : Nat} {b : Int} (h : b ∈ splice l o m) : b ∈ l ∨ b ∈ m := by
  unfold splice at h
  rcases List.mem_append.1 h with h | h
  · rcases List.mem_append.1 h with h | h
    · exact Or.inl (List.mem_of_mem_take h)
    · exact Or.inr h
  · exact Or.inl (List.mem_of_mem_drop h)
theorem full_byte {c : Int} {bs : List Int} (hc : 0 ≤ c ∧ c < 256) (hb : byteL bs) : byteL (fullL c bs) := by
  intro b h
  unfold fullL at h
  obtain ⟨i, _, rfl⟩ := List.mem_map.1 h
  cases hg : bs[i]? with
  | none => exact hc
  | some z => exact hb z (List.mem_of_getElem? hg)
def opensS : Sx.Spec where
  fn := 4
  own := []
  rd := [100]
  res := [.one .bool]
  pre := fun xs Hs Rs => ∃ v frm n R us rows, xs = [v, .int .i64 frm, .int .i64 n] ∧ Rs = [R] ∧ SlB R v us rows ∧ ∀ r ∈ rows, byteL r
  post := fun xs Hs Rs v Hs' F => v = .bool true
def opensNd : Nd := .and (.pre (.call 7 7 [] [] [])) (.ext (.call 7 7 [] [] []) (.and (.imp (.bvar 7) (.and (.e (.le (.lit 0) (.var 2))) (.and (.imp (.lt (.lit 8) (.var 2)) (.and (.pre (.call 7 8 [] [] [])) (.ext (.call 7 8 [] [] []) (.post [.ro 6 [.var 0] true] (.sv (.one (.bool (.bvar 8)))))))) (.imp (.not (.lt (.lit 8) (.var 2))) (.and (.pre (.call 0 8 [.sv (.one (.int .i64 (.var 2)))] [] [])) (.ext (.call 0 8 [.sv (.one (.int .i64 (.var 2)))] [] []) (.and (.inv 0 [⟨21, 0, .int .i64 (.lit 0)⟩] [(22, some 8)]) (.havoc 0 0 10 (.and (.imp (.lt (.var 21) (.var 2)) (.and (.e (.le (.lit 0) (.var 0))) (.and (.e (.le (.lit 0) (.var 1))) (.and (.e (.le (.lit 0) (.var 21))) (.and (.e (.his 6 (.var 0) (.add (.var 1) (.var 21)) 0 .slice)) (.and (.pre (.call 8 30 [.sv (.one (.int .u8 (.lit 0))), .sv (.one (.sl (.hP 6 (.var 0) (.add (.var 1) (.var 21)) 0 0) (.hP 6 (.var 0) (.add (.var 1) (.var 21)) 0 1) (.hP 6 (.var 0) (.add (.var 1) (.var 21)) 0 2) (.hP 6 (.var 0) (.add (.var 1) (.var 21)) 0 3)))] [] [.ro 6 [.var 0] true])) (.ext (.call 8 30 [.sv (.one (.int .u8 (.lit 0))), .sv (.one (.sl (.hP 6 (.var 0) (.add (.var 1) (.var 21)) 0 0) (.hP 6 (.var 0) (.add (.var 1) (.var 21)) 0 1) (.hP 6 (.var 0) (.add (.var 1) (.var 21)) 0 2) (.hP 6 (.var 0) (.add (.var 1) (.var 21)) 0 3)))] [] [.ro 6 [.var 0] true]) (.and (.pre (.call 9 34 [.sv (.one (.hptr (.var 8) (.var 9))), .sv (.one (.int .i64 (.var 21))), .sv (.one (.sl (.var 30) (.var 31) (.var 32) (.var 33)))] [.hp 22 [] [.var 8] []] [.hp 30 [] [.var 30] []])) (.ext (.call 9 34 [.sv (.one (.hptr (.var 8) (.var 9))), .sv (.one (.int .i64 (.var 21))), .sv (.one (.sl (.var 30) (.var 31) (.var 32) (.var 33)))] [.hp 22 [] [.var 8] []] [.hp 30 [] [.var 30] []]) (.back 0 0 [⟨21, 0, .int .i64 (.wrap .i64 (.add (.var 21) (.lit 1)))⟩] [(22, some 34)])))))))))) (.imp (.not (.lt (.var 21) (.var 2))) (.and (.pre (.call 1 30 [.sv (.one (.hptr (.var 8) (.var 9))), .sv (.one (.int .i64 (.var 4))), .sv (.one (.int .i64 (.var 5)))] [.hp 22 [] [.var 8] []] [])) (.ext (.call 1 30 [.sv (.one (.hptr (.var 8) (.var 9))), .sv (.one (.int .i64 (.var 4))), .sv (.one (.int .i64 (.var 5)))] [.hp 22 [] [.var 8] []] []) (.and (.imp (.not (.lt (.var 5) (.lit 3))) (.and (.imp (.not (.lt (.var 4) (.lit 0))) (.and (.imp (.not (.lt (.var 2) (.var 4))) (.and (.imp (.lt (.wrap .i64 (.sub (.var 2) (.var 4))) (.var 5)) (.and (.imp (.eq (.var 32) (.lit 1)) (.post [.ro 6 [.var 0] true, .hp 30 [22] [.var 8] [], .hp 31 [] [.var 30] [.var 8]] (.sv (.one (.bool (.eq (.var 30) (.lit (-1)))))))) (.imp (.not (.eq (.var 32) (.lit 1))) (.post [.ro 6 [.var 0] true, .hp 30 [22] [.var 8] [], .hp 31 [] [.var 30] [.var 8]] (.sv (.one (.bool .ff))))))) (.imp (.not (.lt (.wrap .i64 (.sub (.var 2) (.var 4))) (.var 5))) (.and (.imp (.not (.eq (.var 32) (.lit 0))) (.post [.ro 6 [.var 0] true, .hp 30 [22] [.var 8] [], .hp 31 [] [.var 30] [.var 8]] (.sv (.one (.bool .ff))))) (.imp (.eq (.var 32) (.lit 0)) (.and (.pre (.call 10 33 [.sv (.one (.hptr (.var 8) (.var 9))), .sv (.one (.int .i64 (.var 4)))] [.hp 30 [22] [.var 8] []] [])) (.ext (.call 10 33 [.sv (.one (.hptr (.var 8) (.var 9))), .sv (.one (.int .i64 (.var 4)))] [.hp 30 [22] [.var 8] []] []) (.and (.e (.le (.lit (-1)) (.var 33))) (.and (.e (.le (.lit 0) (.var 34))) (.and (.e (.le (.var 5) (.var 36))) (.and (.pre (.call 11 37 [.sv (.one (.sl (.var 33) (.var 34) (.var 5) (.var 36)))] [] [.hp 34 [] [.var 33] []])) (.ext (.call 11 37 [.sv (.one (.sl (.var 33) (.var 34) (.var 5) (.var 36)))] [] [.hp 34 [] [.var 33] []]) (.ext (.alloc 58) (.and (.pre (.call 12 59 [.sv (.one (.hptr (.var 30) (.var 31)))] [] [.hp 31 [] [.var 30] [.var 8], .hp 31 [] [.var 30] [.var 8]])) (.ext (.call 12 59 [.sv (.one (.hptr (.var 30) (.var 31)))] [] [.hp 31 [] [.var 30] [.var 8], .hp 31 [] [.var 30] [.var 8]]) (.and (.pre (.call 13 80 [.sv (.agg (ckCVs 59 ([Ck.int .u64] ++ List.replicate 16 (Ck.int .u8) ++ [Ck.sl]))), .sv (.agg (ckCVs 37 ([Ck.int .u64] ++ List.replicate 16 (Ck.int .u8) ++ [Ck.sl])))] [] [.hp 59 [] [.var 76] [], .hp 37 [] [.var 54] []])) (.ext (.call 13 80 [.sv (.agg (ckCVs 59 ([Ck.int .u64] ++ List.replicate 16 (Ck.int .u8) ++ [Ck.sl]))), .sv (.agg (ckCVs 37 ([Ck.int .u64] ++ List.replicate 16 (Ck.int .u8) ++ [Ck.sl])))] [] [.hp 59 [] [.var 76] [], .hp 37 [] [.var 54] []]) (.and (.imp (.bvar 80) (.and (.e (.le (.lit 0) (.var 56))) (.and (.pre (.call 6 81 [.sv (.one (.hptr (.var 30) (.var 31)))] [] [.hp 31 [] [.var 30] [.var 8]])) (.ext (.call 6 81 [.sv (.one (.hptr (.var 30) (.var 31)))] [] [.hp 31 [] [.var 30] [.var 8]]) (.and (.imp (.eq (.var 81) (.wrap .i64 (.sub (.wrap .i64 (.mul (.lit 64) (.wrap .i64 (.sub (.var 5) (.lit 2))))) (.var 56)))) (.and (.pre (.call 2 82 [.sv (.one (.hptr (.var 30) (.var 31)))] [] [.hp 31 [] [.var 30] [.var 8]])) (.ext (.call 2 82 [.sv (.one (.hptr (.var 30) (.var 31)))] [] [.hp 31 [] [.var 30] [.var 8]]) (.post [.ro 6 [.var 0] true, .hp 33 [30, 22] [.var 8] [], .hp 31 [] [.var 30] [.var 8], .hp 34 [] [.var 33] [], .hp 37 [] [.var 54] [], .dead, .hp 59 [] [.var 76] []] (.sv (.one (.bool (.not (.bvar 82))))))))) (.imp (.not (.eq (.var 81) (.wrap .i64 (.sub (.wrap .i64 (.mul (.lit 64) (.wrap .i64 (.sub (.var 5) (.lit 2))))) (.var 56))))) (.post [.ro 6 [.var 0] true, .hp 33 [30, 22] [.var 8] [], .hp 31 [] [.var 30] [.var 8], .hp 34 [] [.var 33] [], .hp 37 [] [.var 54] [], .dead, .hp 59 [] [.var 76] []] (.sv (.one (.bool .ff)))))))))) (.imp (.not (.bvar 80)) (.post [.ro 6 [.var 0] true, .hp 33 [30, 22] [.var 8] [], .hp 31 [] [.var 30] [.var 8], .hp 34 [] [.var 33] [], .hp 37 [] [.var 54] [], .dead, .hp 59 [] [.var 76] []] (.sv (.one (.bool .ff))))))))))))))))))))))) (.imp (.lt (.var 2) (.var 4)) (.and (.imp (.eq (.var 32) (.lit 1)) (.post [.ro 6 [.var 0] true, .hp 30 [22] [.var 8] [], .hp 31 [] [.var 30] [.var 8]] (.sv (.one (.bool (.eq (.var 30) (.lit (-1)))))))) (.imp (.not (.eq (.var 32) (.lit 1))) (.post [.ro 6 [.var 0] true, .hp 30 [22] [.var 8] [], .hp 31 [] [.var 30] [.var 8]] (.sv (.one (.bool .ff))))))))) (.imp (.lt (.var 4) (.lit 0)) (.and (.imp (.eq (.var 32) (.lit 1)) (.post [.ro 6 [.var 0] true, .hp 30 [22] [.var 8] [], .hp 31 [] [.var 30] [.var 8]] (.sv (.one (.bool (.eq (.var 30) (.lit (-1)))))))) (.imp (.not (.eq (.var 32) (.lit 1))) (.post [.ro 6 [.var 0] true, .hp 30 [22] [.var 8] [], .hp 31 [] [.var 30] [.var 8]] (.sv (.one (.bool .ff))))))))) (.imp (.lt (.var 5) (.lit 3)) (.and (.imp (.eq (.var 32) (.lit 1)) (.post [.ro 6 [.var 0] true, .hp 30 [22] [.var 8] [], .hp 31 [] [.var 30] [.var 8]] (.sv (.one (.bool (.eq (.var 30) (.lit (-1)))))))) (.imp (.not (.eq (.var 32) (.lit 1))) (.post [.ro 6 [.var 0] true, .hp 30 [22] [.var 8] [], .hp 31 [] [.var 30] [.var 8]] (.sv (.one (.bool .ff)))))))))))))))))))) (.imp (.not (.bvar 7)) (.and (.pre (.call 7 8 [] [] [])) (.ext (.call 7 8 [] [] []) (.post [.ro 6 [.var 0] true] (.sv (.one (.bool (.bvar 8))))))))))
def oΓ : List Sx.Spec := [newS, openS, overS, bytesS, serialS, lnoteS, roomS, awakeS, fullS, writeS, sectsS, rofS, stateS, sameS]
theorem oΓ_ok : ∀ t ∈ oΓ, t.OK Try.prog := fun t ht => by
  simp only [oΓ, List.mem_cons, List.mem_nil_iff, or_false] at ht
  rcases ht with rfl | rfl | rfl | rfl | rfl | rfl | rfl | rfl | rfl | rfl | rfl | rfl | rfl | rfl
  · exact newS_ok
  · exact openS_ok
  · exact overS_ok
  · exact bytesS_ok
  · exact serialS_ok
  · exact lnoteS_ok
  · exact roomS_ok
  · exact awakeS_ok
  · exact fullS_ok
  · exact writeS_ok
  · exact sectsS_ok
  · exact rofS_ok
  · exact stateS_ok
  · exact sameS_ok
def opensW : Walk Try.prog oΓ opensS.fn where
  Λ := fun p => if lp p then some ⟨0, [(8, TI .i64 (.var 21))], [(1, .hp 22 [] [.var 8] [])], 30⟩ else none
  args := [.sv (.one (.sl (.var 0) (.var 1) (.var 2) (.var 3))), TI .i64 (.var 4), TI .i64 (.var 5)]
  mem := [.ro 6 [.var 0] true]
  nv := 7
  nd := opensNd
  ok := by kernel_rfl
theorem ong0 : oΓ[0]? = some newS := rfl
theorem ong1 : oΓ[1]? = some openS := rfl
theorem ong2 : oΓ[2]? = some overS := rfl
theorem ong6 : oΓ[6]? = some roomS := rfl
theorem ong7 : oΓ[7]? = some awakeS := rfl
theorem ong8 : oΓ[8]? = some fullS := rfl
theorem ong9 : oΓ[9]? = some writeS := rfl
theorem ong10 : oΓ[10]? = some sectsS := rfl
theorem ong11 : oΓ[11]? = some rofS := rfl
theorem ong12 : oΓ[12]? = some stateS := rfl
theorem ong13 : oΓ[13]? = some sameS := rfl
theorem onr2 : overS.res = [.one .bool] := rfl
theorem onr8 : fullS.res = [.one .sl] := rfl
theorem onr10 : sectsS.res = [.one .sl] := rfl
theorem onr11 : rofS.res = [.agg stk] := rfl
theorem onr12 : stateS.res = [.agg stk] := rfl
theorem onr13 : sameS.res = [.one .bool] := rfl
theorem onc11 : (cpRoots 0 [Cp.agg stk] ≠ []) = True := by
  have : cpRoots 0 [Cp.agg stk] = [.var 17] := rfl
  rw [this]; simp
def opensInv (rows : List (List Int)) (_ : Nat) (q : Env) : Prop := ∃ (i : Nat) (D : DM), q.i 21 = i ∧ i ≤ rows.length ∧ DiskAt (q.h 22) (.pointer (slP (q.i 8) (q.i 9))) D ∧ Sure D ∧ D.n = rows.length ∧ byteL D.now
theorem SlC.pre {R : Hl} {x y l c : Int} {rows : List (List Int)} (h : SlC R (.slice (slP x y) l.toNat c.toNat) rows) {n : Int} (h0 : 0 ≤ n) (hn : n.toNat ≤ rows.length) (hp : 0 < n) (hx : -1 ≤ x) (hy : 0 ≤ y) : SlC R (.slice (slP x y) n.toNat c.toNat) (rows.take n.toNat) ∧ n.toNat ≤ c.toNat := by
  obtain ⟨x', y', c', us, he, hy', hc, hl, hu, hr⟩ := h
  simp only [Value.slice.injEq] at he
  obtain ⟨hpp, hln, hcc⟩ := he
  obtain ⟨hx0, _⟩ := hu 0 _ (List.getElem?_eq_getElem (show 0 < us.length by omega))
  obtain ⟨rfl, hyy⟩ := slP_inj hx hy (by omega) hy' hpp
  have hyy := hyy hx0
  subst hyy
  refine ⟨⟨x, y, c.toNat, us.take n.toNat, by rw [List.length_take, show min n.toNat us.length = n.toNat by omega], hy, by rw [List.length_take]; omega, by rw [List.length_take, List.length_take, hl], fun j u hj => ?_, fun j u r hj hjr => ?_⟩, by omega⟩
  · rw [List.getElem?_take] at hj
    split at hj
    · exact hu j u hj
    · cases hj
  · rw [List.getElem?_take] at hj hjr
    split at hj
    · rename_i hlt
      rw [if_pos hlt] at hjr
      exact hr j u r hj hjr
    · cases hj
theorem opensS_ok : opensS.OK Try.prog := by
  refine Spec.of_fn (Γ := oΓ) oΓ_ok ?_
  rintro xs Hs Rs hl1 hl2 ⟨v, frm, n, R, us, rows, rfl, rfl, ⟨x, y, c, rfl, hy, hlen, hcell, hrow⟩, hby⟩
  have e0 : Hs = [] := List.length_eq_zero_iff.1 hl1
  subst e0
  refine ⟨opensW, envI [x, y, us.length, c, frm, n] false [Hl.none, Hl.none, Hl.none, Hl.none, Hl.none, Hl.none, R], opensInv rows, fun _ q => (rows.length - q.i 21).toNat, ?_, ⟨?_, ?_, ?_, ?_⟩, (fun _ h => nomatch h), ?_⟩
  · show [Value.slice (slP x y) ((us.length : Int)).toNat ((c : Int)).toNat, Value.int .i64 frm, Value.int .i64 n] = _
    rw [Int.toNat_natCast, Int.toNat_natCast]
  · intro r hr ho; simp [opensW] at hr; subst hr; cases ho
  · intro r hr ho; simp [opensW] at hr; subst hr; exact ⟨R, by simp, Hl.le_refl _⟩
  · simp [opensW]
  · intro r hr; simp [opensW] at hr; subst hr; trivial
  · show Nd.holds _ _ _ opensNd
    generalize hρ : envI [x, y, us.length, c, frm, n] false [Hl.none, Hl.none, Hl.none, Hl.none, Hl.none, Hl.none, R] = ρ
    have v0 : ρ.i 0 = x := by rw [← hρ]; rfl
    have v1 : ρ.i 1 = y := by rw [← hρ]; rfl
    have v2 : ρ.i 2 = rows.length := by rw [← hρ, ← hlen]; rfl
    have v4 : ρ.i 4 = frm := by rw [← hρ]; rfl
    have v5 : ρ.i 5 = n := by rw [← hρ]; rfl
    have w6 : ρ.h 6 = R := by rw [← hρ]; rfl
    have yes : ∀ (q : Env) (mem : Mem) (e : E), bev q e = true → postOf opensS [.slice (slP x y) us.length c, .int .i64 frm, .int .i64 n] [] [R] q mem (.sv (.one (.bool e))) := fun q mem e he _ =>
      ⟨[], [], rfl, rfl, ⟨⟨fun _ => 0, fun _ => true, fun _ => .empty, fun _ => .tuple #[], fun _ => Hl.none⟩, by show Value.bool (bev q e) = .bool true; rw [he], trivial, trivial⟩, by show Value.bool (bev q e) = .bool true; rw [he]⟩
    unfold opensNd
    simp only [Nd.holds, X.pre, X.rel, X.n, Src.ok, Src.len, Src.vals, true_and, and_true, if_true, Nat.mul_one, Nat.add_zero, Nat.reduceAdd, List.length_cons, List.length_nil, bT_tt, bT_ff, bT_bvar, bT_not, bT_and, bT_or, bT_ite, bT_lt, bT_le, bT_eq, bT_beq, bT_seq, bT_hB, bT_his, bT_hby, bT_hism, bT_hks, iev_lit, iev_var, iev_add, iev_sub, iev_mul, iev_wrap, iev_ite, iev_hI, iev_hP, iev_hmlen, sev_ite, sev_slit, sev_sof, sev_svar, TV.ev, SV.ev, CV.ev, List.map_cons, List.map_nil, Res.hl, cpTV, Cp.sv, Ck.cv, cpSVs, Cp.len, Ck.len, newHs_zero, newHs_one, roots_ne, ong0, ong1, ong2, ong6, ong7, ong8, ong9, ong10, ong11, ong12, ong13, cr0, cr1, ar0, fr0, gr8, onr2, onr8, onr10, onr11, onr12, onr13, cc0, cc1, ac1, onc11]
    refine ⟨rfl, fun q1 g1 ⟨F1, hp1, _, _⟩ => ?_⟩
    have hb1 : q1.b 7 = true := by
      have h : Value.bool (q1.b 7) = .bool true := hp1
      simpa using h
    rw [hb1, g1.i 2 (by omega), v2]
    refine ⟨fun _ => ⟨by omega, fun _ => ⟨rfl, fun q2 g2 ⟨F2, hp2, _, _⟩ => yes q2 _ _ ?_⟩, fun h8 => ⟨⟨rows.length, rfl⟩, fun q2 g2 ⟨F2, ⟨n2, hx2, hD2⟩, hF2, _⟩ => ?_⟩⟩, fun h => absurd rfl h⟩
    · have h : Value.bool (q2.b 8) = .bool true := hp2
      rw [bev_bvar]
      simpa using h
    have hx2 : n2 = rows.length := by simpa using hx2.symm
    subst hx2
    have hF2 := hF2 trivial
    subst hF2
    have hsn : sects (rows.length : Int) = rows.length := by unfold sects; omega
    refine ⟨⟨0, newD rows.length, rfl, by omega, hD2, newD_sure _, hsn, fun b hb => ?_⟩, fun q g ⟨i, D, e21, hi, hD, hS, hDn, hDb⟩ => ?_⟩
    · have : b = 0 := List.eq_of_mem_replicate hb
      omega
    have P7 : Agree 7 ρ q := (g1.trans (g2.mono (by omega))).trans (g.mono (by omega))
    have hok := hS.ok
    have hDn16 := hok.n
    rw [e21, P7.i 2 (by omega), v2, P7.i 0 (by omega), v0, P7.i 1 (by omega), v1, P7.i 4 (by omega), v4, P7.i 5 (by omega), v5, P7.h 6 (by omega), w6]
    refine ⟨fun hlt => ?_, fun hge => ?_⟩
    · have hir : i < rows.length := by omega
      obtain ⟨u, hu⟩ : ∃ u, us[i]? = some u := ⟨_, List.getElem?_eq_getElem (show i < us.length by omega)⟩
      obtain ⟨r, hr⟩ : ∃ r, rows[i]? = some r := ⟨_, List.getElem?_eq_getElem hir⟩
      obtain ⟨hx0, hc⟩ := hcell i u hu
      have hrd := hrow i u r hu hr
      obtain ⟨hsl, h2, hcb, htx⟩ := RdW.parts hrd
      have hc' : R.cell x.toNat (y + (i : Int)).toNat = some u := by
        rw [show (y + (i : Int)).toNat = y.toNat + i by omega]; exact hc
      rw [hc', sl_parts hsl]
      refine ⟨hx0, hy, by omega, by obtain ⟨a, l, c, rfl⟩ := hsl; rfl, ⟨0, u, r, R, rfl, rfl, hrd⟩, fun q3 g3 ⟨F3, ⟨c3, u3, b3, R3, hx3, hR3, hrd3, hO3⟩, hF3, hn3⟩ => ?_⟩
      have hx3 : 0 = c3 ∧ u = u3 := by simpa using hx3
      obtain ⟨rfl, rfl⟩ := hx3
      have hR3 : R = R3 := by simpa using hR3
      subst hR3
      have e := hrd3.uniq hrd
      subst e
      have hF3 := hF3 trivial
      subst hF3
      have e21' : q3.i 21 = i := by rw [g3.i 21 (by omega), e21]
      have hD3 : DiskAt (q3.h 22) (.pointer (slP (q3.i 8) (q3.i 9))) D := by rw [g3.h 22 (by omega), g3.i 8 (by omega), g3.i 9 (by omega)]; exact hD
      rw [e21']
      refine ⟨⟨_, i, _, fullL 0 b3, _, _, D, rfl, rfl, rfl, hD3, hO3.rd⟩, fun q4 g4 ⟨F4, ⟨p4, i4, u4, b4, H4, R4, D4, H4', hx4, hH4, hR4, hD4, hB4, hK4, hDy, hv4⟩, _, _⟩ => ?_⟩
      have hx4 : Value.pointer (slP (q3.i 8) (q3.i 9)) = p4 ∧ (i : Int) = i4 ∧ Value.slice (slP (q3.i 30) (q3.i 31)) (q3.i 32).toNat (q3.i 33).toNat = u4 := by simpa using hx4
      obtain ⟨rfl, rfl, rfl⟩ := hx4
      have hH4 : q3.h 22 = H4 := by simpa using hH4
      subst hH4
      have hR4 : q3.h 30 = R4 := by simpa using hR4
      subst hR4
      have e := hD4.uniq hD3
      subst e
      have e := hB4.uniq hO3.rd
      subst e
      have hK4 : q4.h 34 = H4' := by simpa using hK4
      subst hK4
      have hi' : D4.has (i : Int) = true := by unfold DM.has; rw [hDn]; simp only [decide_eq_true_eq]; omega
      have hw := writeR_sure hS hi' (fullL_length 0 b3)
      rw [hw] at hDy
      have m21 : (assign q4 [⟨21, 0, .int .i64 (.wrap .i64 (.add (.var 21) (.lit 1)))⟩] [(22, some 34)]).i 21 = i + 1 := by
        show IntKind.i64.wrap (q4.i 21 + 1) = _
        rw [g4.i 21 (by omega), e21', wrap_i64 (by omega) (by omega)]
      refine ⟨⟨i + 1, putD D4 i (fullL 0 b3), by rw [m21]; omega, by omega, ?_, putD_sure hS hi' (fullL_length 0 b3), hDn, fun b hb => ?_⟩, by rw [m21]; omega⟩
      · show DiskAt (q4.h 34) (.pointer (slP (q4.i 8) (q4.i 9))) _
        rw [g4.i 8 (by omega), g4.i 9 (by omega)]; exact hDy
      · rcases splice_mem hb with h | h
        · exact hDb b h
        · exact full_byte (by omega) (hby _ (List.mem_of_getElem? hr)) b h
    · refine ⟨⟨_, frm, n, _, D, rfl, rfl, hD⟩, fun q3 g3 ⟨F3, hp3, hF3, hn3⟩ => ?_⟩
      have hF3 := hF3 trivial
      obtain ⟨pv, hD3, hv3, hl3, hnil⟩ := open_post hD hp3
      simp only [Value.tuple.injEq, Array.mk.injEq, List.cons.injEq, Value.int.injEq, true_and, and_true] at hv3
      obtain ⟨rfl, h32⟩ := hv3
      have P3 : Agree 7 ρ q3 := P7.trans (g3.mono (by omega))
      have esub : 0 ≤ frm → frm ≤ rows.length → IntKind.i64.wrap ((rows.length : Int) - frm) = rows.length - frm := fun a b => wrap_i64 (by omega) (by omega)
      rw [P3.i 2 (by omega), v2, P3.i 4 (by omega), v4, P3.i 5 (by omega), v5, h32]
      have bad : ∀ t, openE D frm n = 1 → (openE D frm n = 1 → postOf opensS [.slice (slP x y) us.length c, .int .i64 frm, .int .i64 n] [] [R] q3 t (.sv (.one (.bool (.eq (.var 30) (.lit (-1))))))) ∧ (¬ openE D frm n = 1 → postOf opensS [.slice (slP x y) us.length c, .int .i64 frm, .int .i64 n] [] [R] q3 t (.sv (.one (.bool .ff)))) := by
        intro t h1
        refine ⟨fun _ => yes q3 t _ ?_, fun h => absurd h1 h⟩
        have := hnil (by rw [h1]; decide)
        rw [bT_eq, iev_var, iev_lit]
        have h2 := slP_isNone (q3.i 30) (q3.i 31)
        have h3 : slP (q3.i 30) (q3.i 31) = none := by simpa using this
        rw [h3] at h2
        simpa using h2
      refine ⟨fun h3 => ⟨fun h0 => ⟨fun hfr => ⟨fun hbig => bad _ (by unfold openE; rw [hDn, if_pos]; rw [esub (by omega) (by omega)] at hbig; omega), fun hfit => ?_⟩, fun hfr => bad _ (by unfold openE; rw [hDn, if_pos]; omega)⟩, fun h0 => bad _ (by unfold openE; rw [if_pos]; omega)⟩, fun h3 => bad _ (by unfold openE; rw [if_pos]; omega)⟩
      rw [esub (by omega) (by omega)] at hfit
      have hoe : openE D frm n = 0 := by
        unfold openE
        rw [hDn, if_neg (by omega), hS.gone]; rfl
      rw [hoe]
      refine ⟨fun h => absurd rfl h, fun _ => ?_⟩
      obtain ⟨N, hN⟩ : ∃ N : Nat, n = N := ⟨n.toNat, by omega⟩
      have hN3 : 3 ≤ N := by omega
      have hfN : frm + N ≤ D.n := by omega
      have hl3 := hl3 hoe
      rw [← hF3] at hl3
      have hD3' : DiskAt (q3.h 30) (.pointer (slP (q3.i 8) (q3.i 9))) D := by rw [g3.i 8 (by omega), g3.i 9 (by omega)]; exact hD3
      have h0' : 0 ≤ frm := by omega
      have hdp : ∀ q : Env, Agree 33 q3 q → q.i 30 = q3.i 30 ∧ q.i 31 = q3.i 31 ∧ q.h 31 = q3.h 31 ∧ q.i 5 = n := fun q h => ⟨h.i 30 (by omega), h.i 31 (by omega), h.h 31 (by omega), by rw [h.i 5 (by omega), P3.i 5 (by omega), v5]⟩
      have hoBl : (openB D frm n).length ≤ 1048576 := by
        unfold openB bytesAt
        rw [List.length_take]
        have hs : (openL D frm n).size ≤ 64 * (n - 2) := by
          show (openH D frm n).getD 1 0 ≤ _
          unfold openH
          split
          · exact (lread_head hok frm (by omega) 1).2
          · exact (lread_head hok frm (by omega) 0).2
        omega
      have hno18 : ((openH D frm n).drop 2).length = 16 := by
        have : (openH D frm n).length = 18 := by
          unfold openH
          split
          · exact (lread_head hok frm (by omega) 1).1.1
          · exact (lread_head hok frm (by omega) 0).1.1
        rw [List.length_drop]; omega
      refine ⟨⟨_, frm, _, D, rfl, rfl, hD3', hS.gone, h0', by omega⟩, fun q4 g4 ⟨F4, ⟨p', f', H', D', H2, hx, hH, hD', hH2, hD2, hSl⟩, hF4, hn4⟩ => ?_⟩
      have hx : Value.pointer (slP (q3.i 8) (q3.i 9)) = p' ∧ frm = f' := by simpa using hx
      obtain ⟨rfl, rfl⟩ := hx
      have hH : q3.h 30 = H' := by simpa using hH
      subst hH
      have e := hD'.uniq hD3'
      subst e
      have hF4 := hF4 trivial
      rw [← hF4] at hSl
      obtain ⟨⟨n33, n34, n35, n36⟩, _⟩ := hn4
      have n36 : 0 ≤ q4.i 36 := n36
      obtain ⟨hSlN, hcapN⟩ := SlC.pre hSl (n := n) (by omega) (by rw [rowsOf_length]; omega) (by omega) n33 n34
      rw [show n.toNat = N by omega, rowsOf_take _ _ _ _ (by omega)] at hSlN
      obtain ⟨_, _, _, e5⟩ := hdp q4 g4
      rw [e5]
      refine ⟨n33, n34, by omega, ⟨_, rowsOf D' frm N, _, rfl, rfl, by rw [show n.toNat = N by omega]; exact hSlN, by rw [rowsOf_length]; omega, by rw [rowsOf_length]; omega, fun r hr => ?_⟩, fun q5 g5 ⟨F5, ⟨v5', rows5, R5, sl5, hx5, hR5, hS5, hv5, hO5⟩, hF5, hn5⟩ q6 g6 _ => ?_⟩
      · unfold rowsOf at hr
        obtain ⟨j, hj, rfl⟩ := List.mem_map.1 hr
        have hj := List.mem_range.1 hj
        refine ⟨sector_length hok (by unfold DM.has; simp only [decide_eq_true_eq]; omega), fun b hb => hDb b ?_⟩
        unfold DM.sector at hb
        exact List.mem_of_mem_drop (List.mem_of_mem_take hb)
      have hx5 : Value.slice (slP (q4.i 33) (q4.i 34)) n.toNat (q4.i 36).toNat = v5' := by simpa using hx5
      subst hx5
      have hR5 : q4.h 34 = R5 := by simpa using hR5
      subst hR5
      rw [show n.toNat = N by omega] at hS5
      have e := hS5.uniq hSlN
      subst e
      have hF5 := hF5 trivial
      rw [← hF5] at hO5
      obtain ⟨⟨_, _, _, _, _, _, _, _, _, _, _, _, _, _, _, _, _, ⟨n54, n55, n56, n57⟩, _⟩, _⟩ := hn5
      have n56 : 0 ≤ q5.i 56 := n56
      have hofh : ofH (rowsOf D' frm N) = openH D' frm n := by rw [of_open hS h0' hN3 hfN, hN]
      have hofb : ofB (rowsOf D' frm N) = openB D' frm n := by rw [ofB_open hS h0' hN3 hfN, hN]
      rw [hofh] at hv5
      rw [hofb] at hO5
      have st5 : stV (q5.i 37) ((List.range 16).map fun k => q5.i (38 + k)) (.slice (slP (q5.i 54) (q5.i 55)) (q5.i 56).toNat (q5.i 57).toNat) = stV ((openH D' frm n).getD 0 0) ((openH D' frm n).drop 2) sl5 := hv5
      obtain ⟨_, _, hsl5⟩ := stV_inj rfl hno18 st5
      rw [← hsl5] at hO5
      obtain ⟨e56, _⟩ := hO5.rd.at n54 n55 n56
      have Q6 : Agree 33 q3 q6 := (g4.trans (g5.mono (by omega))).trans (g6.mono (by omega))
      obtain ⟨k30, k31, kh31, _⟩ := hdp q6 Q6
      rw [k30, k31, kh31]
      refine ⟨⟨_, _, _, _, _, _, rfl, rfl, hl3, hoBl⟩, fun q7 g7 ⟨F7, ⟨p7, R7, R7', dp7, L7, bs7, sl7, hx7, hR7, hL7, hv7, hO7⟩, hF7, hn7⟩ => ?_⟩
      have hx7 : Value.pointer (slP (q3.i 30) (q3.i 31)) = p7 := by simpa using hx7
      subst hx7
      have hR7 : q3.h 31 = R7 ∧ q3.h 31 = R7' := by simpa using hR7
      obtain ⟨hR7a, hR7b⟩ := hR7
      subst hR7a
      obtain ⟨e1, e2, e3⟩ := hL7.uniq hl3
      rw [e2] at hv7
      rw [e3] at hO7
      have hF7 := hF7 trivial
      rw [← hF7] at hO7
      have hv7' : Value.agg (List.map (CV.ev q7) (ckCVs 59 ([Ck.int IntKind.u64] ++ List.replicate 16 (Ck.int IntKind.u8) ++ [Ck.sl]))).toArray = stV (openL D' frm n).serial (openL D' frm n).note sl7 := hv7
      have Q75 : Agree 58 q5 q7 := g6.trans (g7.mono (by omega))
      have hv5' : Value.agg (List.map (CV.ev q7) (ckCVs 37 ([Ck.int IntKind.u64] ++ List.replicate 16 (Ck.int IntKind.u8) ++ [Ck.sl]))).toArray = stV ((openH D' frm n).getD 0 0) ((openH D' frm n).drop 2) sl5 := by
        have e : List.map (CV.ev q7) (ckCVs 37 stk) = List.map (CV.ev q5) (ckCVs 37 stk) := CV.agreeL (Q75.mono (by decide)) _ (ckCVs_upto stk 37)
        show Value.agg (List.map (CV.ev q7) (ckCVs 37 stk)).toArray = _
        rw [e]; exact hv5
      have hser : (openL D' frm n).serial = (openH D' frm n).getD 0 0 := rfl
      have hnot : (openL D' frm n).note = (openH D' frm n).drop 2 := rfl
      rw [hser, hnot] at hv7'
      rw [hv7', hv5']
      rw [hsl5] at hO5
      have hh37 : q7.h 37 = q5.h 37 := Q75.h 37 (by omega)
      refine ⟨⟨_, _, sl7, _, _, sl5, openB D' frm n, openB D' frm n, _, _, rfl, rfl, hno18, hno18, hO7.rd, by rw [hh37]; exact hO5.rd⟩, fun q8 g8 ⟨F8, ⟨s1, m1, u1, s2, m2, u2, b1, b2, R1, R2, hx8, hR8, hm1, hm2, hB1, hB2, hv8⟩, _, _⟩ => ?_⟩
      have hx8 : stV ((openH D' frm n).getD 0 0) ((openH D' frm n).drop 2) sl7 = stV s1 m1 u1 ∧ stV ((openH D' frm n).getD 0 0) ((openH D' frm n).drop 2) sl5 = stV s2 m2 u2 := by simpa using hx8
      obtain ⟨hxa, hxb⟩ := hx8
      obtain ⟨ea1, ea2, ea3⟩ := stV_inj hno18 hm1 hxa
      obtain ⟨eb1, eb2, eb3⟩ := stV_inj hno18 hm2 hxb
      have hR8 : q7.h 59 = R1 ∧ q7.h 37 = R2 := by simpa using hR8
      obtain ⟨hRa, hRb⟩ := hR8
      subst ea3 eb3 hRa hRb
      have eq1 := hB1.uniq hO7.rd
      have eq2 := hB2.uniq (by rw [hh37]; exact hO5.rd)
      have hb80 : Value.bool (q8.b 80) = .bool true := hv8 (by rw [← ea1, ← eb1]) (by rw [← ea2, ← eb2]) (by rw [eq1, eq2])
      have hb80 : q8.b 80 = true := by simpa using hb80
      have Q8 : Agree 33 q3 q8 := (Q6.trans (g7.mono (by omega))).trans (g8.mono (by omega))
      obtain ⟨k30, k31, kh31, k5⟩ := hdp q8 Q8
      have f56 : q8.i 56 = ((openB D' frm n).length : Nat) := by rw [g8.i 56 (by omega), Q75.i 56 (by omega)]; exact e56
      rw [hb80, k30, k31, kh31, f56]
      refine ⟨fun _ => ⟨by omega, room_pre hl3 hoBl, fun q9 g9 ⟨F9, hp9, _, _⟩ => ?_⟩, fun h => absurd rfl h⟩
      have h81 := room_post hl3 hp9
      have h81 : q9.i 81 = (openL D' frm n).most - (openB D' frm n).length := by simpa using h81
      have hmo : (openL D' frm n).most = 64 * (n - 2) := rfl
      have Q9 : Agree 33 q3 q9 := Q8.trans (g9.mono (by omega))
      obtain ⟨k30, k31, kh31, k5⟩ := hdp q9 Q9
      have f56 : q9.i 56 = ((openB D' frm n).length : Nat) := by rw [g9.i 56 (by omega)]; exact f56
      have ew : IntKind.i64.wrap (IntKind.i64.wrap (64 * IntKind.i64.wrap (n - 2)) - ((openB D' frm n).length : Nat)) = 64 * (n - 2) - (openB D' frm n).length := by
        rw [wrap_i64 (n := n - 2) (by omega) (by omega), wrap_i64 (n := 64 * (n - 2)) (by omega) (by omega), wrap_i64 (by omega) (by omega)]
      rw [k30, k31, kh31, k5, f56, ew, h81, hmo]
      refine ⟨fun _ => ⟨over_pre hl3, fun q10 g10 ⟨F10, hp10, _, _⟩ => yes q10 _ _ ?_⟩, fun h => absurd rfl h⟩
      have h82 := over_post hl3 hp10
      have h82 : q10.b 82 = false := by
        have h : Value.bool (q10.b 82) = .bool (openL D' frm n).over := h82
        simpa [openL, headL] using h
      rw [bT_not, bev_bvar, h82]
      simp
end Go.Proofs.Ytnpepkjfeadbjaa
