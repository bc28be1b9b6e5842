/- Layer 8: a log is opened, as a contract. No condition. -/
import Derived.Test.YtomdimlnggpgbaaDoorCelH
set_option linter.unusedSimpArgs false
set_option linter.unusedVariables false
set_option linter.constructorNameAsVariable false
namespace Go.Proofs.YtomdimlnggpgbaaDoor.D
open Go Go.Sx

theorem bigB_range (n c : Int) : 0 ≤ bigB n c ∧ bigB n c < 18446744073709551616 := by
  unfold bigB
  have h : ∀ x : Int, 0 ≤ IntKind.u64.wrap x ∧ IntKind.u64.wrap x < 18446744073709551616 := fun x => ⟨Int.emod_nonneg _ (by decide), Int.emod_lt_of_pos _ (by decide)⟩
  exact h _
theorem bigI_range (l : List Int) : 0 ≤ bigI l ∧ bigI l < 18446744073709551616 := by
  have h : ∀ (l : List Int) (n : Int), (0 ≤ n ∧ n < 18446744073709551616) → 0 ≤ l.foldl bigB n ∧ l.foldl bigB n < 18446744073709551616 := by
    intro l
    induction l with
    | nil => exact fun n h => h
    | cons c l ih => exact fun n _ => ih _ (bigB_range n c)
  exact h l 0 (by omega)
theorem lread_head {D : DM} (hD : D.ok) (frm : Int) {most : Int} (hm : 0 ≤ most) (place : Int) : headOK (lreadR D frm most place).1 ∧ (lreadR D frm most place).1.getD 1 0 ≤ most := by
  have hz : headOK zeros18 ∧ zeros18.getD 1 0 ≤ most := ⟨⟨rfl, ⟨Int.le_refl _, by decide⟩, Int.le_refl _, by decide⟩, hm⟩
  unfold lreadR
  split
  · exact hz
  · rename_i h
    have h : (readR D (frm + place)).2 = 0 := by simpa using h
    obtain ⟨_, _, e, hl⟩ := readR_ok hD h
    split
    · rename_i hg
      have r0 := bigI_range (((readR D (frm + place)).1.take 32).take 8)
      have r1 := bigI_range ((((readR D (frm + place)).1.take 32).drop 8).take 8)
      refine ⟨⟨?_, r0, r1⟩, hg.2.2⟩
      unfold headI
      rw [e]
      simp only [List.length_append, List.length_cons, List.length_nil, List.length_take, List.length_drop, hl]
      rfl
    · exact hz
theorem lread_code {D : DM} {frm most place : Int} (h : D.has (frm + place) = true) : (lreadR D frm most place).2 = if D.gone then 5 else 0 := by
  unfold lreadR readR
  rw [h]
  cases D.gone with
  | true => simp
  | false => simp; split <;> rfl
def headL (frm most : Int) (h : List Int) : LM := ⟨frm, most, h.getD 0 0, h.getD 1 0, h.drop 2, false⟩
def openE (D : DM) (frm n : Int) : Int := if n < 3 ∨ frm < 0 ∨ (D.n : Int) < frm ∨ (D.n : Int) - frm < n then 1 else if D.gone then 5 else 0
def openH (D : DM) (frm n : Int) : List Int := if (lreadR D frm (64 * (n - 2)) 0).1.getD 0 0 < (lreadR D frm (64 * (n - 2)) 1).1.getD 0 0 then (lreadR D frm (64 * (n - 2)) 1).1 else (lreadR D frm (64 * (n - 2)) 0).1
def openL (D : DM) (frm n : Int) : LM := headL frm (64 * (n - 2)) (openH D frm n)
def openB (D : DM) (frm n : Int) : List Int := bytesAt D frm (openL D frm n).size
def openS : Sx.Spec where
  fn := 15
  own := [.arg 0]
  rd := []
  res := [.one .ptr, .one (.int .i64)]
  links := [0]
  pre := fun xs Hs Rs => ∃ dp frm n H D, xs = [dp, .int .i64 frm, .int .i64 n] ∧ Hs = [H] ∧ DiskAt H dp D
  post := fun xs Hs Rs v Hs' F => ∃ dp frm n H D H' pv, xs = [dp, .int .i64 frm, .int .i64 n] ∧ Hs = [H] ∧ DiskAt H dp D ∧ Hs' = [H'] ∧ DiskAt H' dp D ∧ v = .tuple #[pv, .int .i64 (openE D frm n)] ∧ (openE D frm n = 0 → LogAt F pv dp (openL D frm n) (openB D frm n)) ∧ (openE D frm n ≠ 0 → pv = .pointer none)
def openNd : Nd := .and (.imp (.not (.lt (.var 2) (.lit 3))) (.and (.imp (.not (.lt (.var 1) (.lit 0))) (.and (.pre (.call 0 4 [.sv (.one (.hptr (.var 0) (.lit 0)))] [.hp 3 [] [.var 0] []] [])) (.ext (.call 0 4 [.sv (.one (.hptr (.var 0) (.lit 0)))] [.hp 3 [] [.var 0] []] []) (.and (.imp (.not (.lt (.var 4) (.var 1))) (.and (.pre (.call 0 6 [.sv (.one (.hptr (.var 0) (.lit 0)))] [.hp 4 [3] [.var 0] []] [])) (.ext (.call 0 6 [.sv (.one (.hptr (.var 0) (.lit 0)))] [.hp 4 [3] [.var 0] []] []) (.and (.imp (.lt (.wrap .i64 (.sub (.var 6) (.var 1))) (.var 2)) (.post [.hp 6 [4, 3] [.var 0] []] (.tup [.one (.hptr (.lit (-1)) (.lit 0)), .one (.int .i64 (.lit 1))]))) (.imp (.not (.lt (.wrap .i64 (.sub (.var 6) (.var 1))) (.var 2))) (.ext (.alloc 8) (.and (.pre (.call 1 9 [.sv (.one (.hptr (.var 8) (.lit 0))), .sv (.one (.int .u64 (.lit 0)))] [.hp 6 [4, 3] [.var 0] []] [.blk 8 ([.hptr (.var 0) (.lit 0), .int .i64 (.var 1), .int .i64 (.wrap .i64 (.mul (.lit 64) (.wrap .i64 (.sub (.var 2) (.lit 2))))), .int .u64 (.lit 0), .int .u64 (.lit 0)] ++ List.replicate 16 (CV.int .u8 (.lit 0)) ++ [.sl (.lit (-1)) (.lit 0) (.lit 0) (.lit 0), .bool .ff]) 81])) (.ext (.call 1 9 [.sv (.one (.hptr (.var 8) (.lit 0))), .sv (.one (.int .u64 (.lit 0)))] [.hp 6 [4, 3] [.var 0] []] [.blk 8 ([.hptr (.var 0) (.lit 0), .int .i64 (.var 1), .int .i64 (.wrap .i64 (.mul (.lit 64) (.wrap .i64 (.sub (.var 2) (.lit 2))))), .int .u64 (.lit 0), .int .u64 (.lit 0)] ++ List.replicate 16 (CV.int .u8 (.lit 0)) ++ [.sl (.lit (-1)) (.lit 0) (.lit 0) (.lit 0), .bool .ff]) 81]) (.ext (.alloc 28) (.and (.imp (.not (.eq (.var 27) (.lit 0))) (.post [.hp 9 [6, 4, 3] [.var 0] [], .dead, .dead] (.tup [.one (.hptr (.lit (-1)) (.lit 0)), .one (.int .i64 (.var 27))]))) (.imp (.eq (.var 27) (.lit 0)) (.and (.imp (.lt (.lit 0) (.var 9)) (.and (.pre (.call 1 29 [.sv (.one (.hptr (.var 8) (.lit 0))), .sv (.one (.int .u64 (.lit 1)))] [.hp 9 [6, 4, 3] [.var 0] []] [.blk 8 ([.hptr (.var 0) (.lit 0), .int .i64 (.var 1), .int .i64 (.wrap .i64 (.mul (.lit 64) (.wrap .i64 (.sub (.var 2) (.lit 2)))))] ++ ckCVs 9 ([Ck.int .u64, Ck.int .u64] ++ List.replicate 16 (Ck.int .u8)) ++ [.sl (.lit (-1)) (.lit 0) (.lit 0) (.lit 0), .bool .ff]) 81])) (.ext (.call 1 29 [.sv (.one (.hptr (.var 8) (.lit 0))), .sv (.one (.int .u64 (.lit 1)))] [.hp 9 [6, 4, 3] [.var 0] []] [.blk 8 ([.hptr (.var 0) (.lit 0), .int .i64 (.var 1), .int .i64 (.wrap .i64 (.mul (.lit 64) (.wrap .i64 (.sub (.var 2) (.lit 2)))))] ++ ckCVs 9 ([Ck.int .u64, Ck.int .u64] ++ List.replicate 16 (Ck.int .u8)) ++ [.sl (.lit (-1)) (.lit 0) (.lit 0) (.lit 0), .bool .ff]) 81]) (.ext (.alloc 48) (.and (.imp (.not (.eq (.var 47) (.lit 0))) (.post [.hp 29 [9, 6, 4, 3] [.var 0] [], .dead, .dead, .dead] (.tup [.one (.hptr (.lit (-1)) (.lit 0)), .one (.int .i64 (.var 47))]))) (.imp (.eq (.var 47) (.lit 0)) (.and (.imp (.lt (.var 9) (.var 29)) (.and (.pre (.call 2 49 [.sv (.one (.hptr (.var 8) (.lit 0)))] [.blk 8 ([.hptr (.var 0) (.lit 0), .int .i64 (.var 1), .int .i64 (.wrap .i64 (.mul (.lit 64) (.wrap .i64 (.sub (.var 2) (.lit 2)))))] ++ ckCVs 29 ([Ck.int .u64, Ck.int .u64] ++ List.replicate 16 (Ck.int .u8)) ++ [.sl (.lit (-1)) (.lit 0) (.lit 0) (.lit 0), .bool .ff]) 81, .hp 29 [9, 6, 4, 3] [.var 0] []] [])) (.ext (.call 2 49 [.sv (.one (.hptr (.var 8) (.lit 0)))] [.blk 8 ([.hptr (.var 0) (.lit 0), .int .i64 (.var 1), .int .i64 (.wrap .i64 (.mul (.lit 64) (.wrap .i64 (.sub (.var 2) (.lit 2)))))] ++ ckCVs 29 ([Ck.int .u64, Ck.int .u64] ++ List.replicate 16 (Ck.int .u8)) ++ [.sl (.lit (-1)) (.lit 0) (.lit 0) (.lit 0), .bool .ff]) 81, .hp 29 [9, 6, 4, 3] [.var 0] []] []) (.and (.imp (.not (.eq (.var 49) (.lit 0))) (.post [.hp 50 [29, 9, 6, 4, 3] [.var 0] [], .hp 49 [] [.var 8] [], .dead, .dead] (.tup [.one (.hptr (.lit (-1)) (.lit 0)), .one (.int .i64 (.var 49))]))) (.imp (.eq (.var 49) (.lit 0)) (.post [.hp 50 [29, 9, 6, 4, 3] [.var 0] [], .hp 49 [] [.var 8] [], .dead, .dead] (.tup [.one (.hptr (.var 8) (.lit 0)), .one (.int .i64 (.lit 0))]))))))) (.imp (.not (.lt (.var 9) (.var 29))) (.and (.pre (.call 2 49 [.sv (.one (.hptr (.var 8) (.lit 0)))] [.blk 8 ([.hptr (.var 0) (.lit 0), .int .i64 (.var 1), .int .i64 (.wrap .i64 (.mul (.lit 64) (.wrap .i64 (.sub (.var 2) (.lit 2)))))] ++ ckCVs 9 ([Ck.int .u64, Ck.int .u64] ++ List.replicate 16 (Ck.int .u8)) ++ [.sl (.lit (-1)) (.lit 0) (.lit 0) (.lit 0), .bool .ff]) 81, .hp 29 [9, 6, 4, 3] [.var 0] []] [])) (.ext (.call 2 49 [.sv (.one (.hptr (.var 8) (.lit 0)))] [.blk 8 ([.hptr (.var 0) (.lit 0), .int .i64 (.var 1), .int .i64 (.wrap .i64 (.mul (.lit 64) (.wrap .i64 (.sub (.var 2) (.lit 2)))))] ++ ckCVs 9 ([Ck.int .u64, Ck.int .u64] ++ List.replicate 16 (Ck.int .u8)) ++ [.sl (.lit (-1)) (.lit 0) (.lit 0) (.lit 0), .bool .ff]) 81, .hp 29 [9, 6, 4, 3] [.var 0] []] []) (.and (.imp (.not (.eq (.var 49) (.lit 0))) (.post [.hp 50 [29, 9, 6, 4, 3] [.var 0] [], .hp 49 [] [.var 8] [], .dead, .dead] (.tup [.one (.hptr (.lit (-1)) (.lit 0)), .one (.int .i64 (.var 49))]))) (.imp (.eq (.var 49) (.lit 0)) (.post [.hp 50 [29, 9, 6, 4, 3] [.var 0] [], .hp 49 [] [.var 8] [], .dead, .dead] (.tup [.one (.hptr (.var 8) (.lit 0)), .one (.int .i64 (.lit 0))])))))))))))))) (.imp (.not (.lt (.lit 0) (.var 9))) (.and (.pre (.call 1 29 [.sv (.one (.hptr (.var 8) (.lit 0))), .sv (.one (.int .u64 (.lit 1)))] [.hp 9 [6, 4, 3] [.var 0] []] [.blk 8 ([.hptr (.var 0) (.lit 0), .int .i64 (.var 1), .int .i64 (.wrap .i64 (.mul (.lit 64) (.wrap .i64 (.sub (.var 2) (.lit 2)))))] ++ ckCVs 9 ([Ck.int .u64, Ck.int .u64] ++ List.replicate 16 (Ck.int .u8)) ++ [.sl (.lit (-1)) (.lit 0) (.lit 0) (.lit 0), .bool .ff]) 81])) (.ext (.call 1 29 [.sv (.one (.hptr (.var 8) (.lit 0))), .sv (.one (.int .u64 (.lit 1)))] [.hp 9 [6, 4, 3] [.var 0] []] [.blk 8 ([.hptr (.var 0) (.lit 0), .int .i64 (.var 1), .int .i64 (.wrap .i64 (.mul (.lit 64) (.wrap .i64 (.sub (.var 2) (.lit 2)))))] ++ ckCVs 9 ([Ck.int .u64, Ck.int .u64] ++ List.replicate 16 (Ck.int .u8)) ++ [.sl (.lit (-1)) (.lit 0) (.lit 0) (.lit 0), .bool .ff]) 81]) (.ext (.alloc 48) (.and (.imp (.not (.eq (.var 47) (.lit 0))) (.post [.hp 29 [9, 6, 4, 3] [.var 0] [], .dead, .dead, .dead] (.tup [.one (.hptr (.lit (-1)) (.lit 0)), .one (.int .i64 (.var 47))]))) (.imp (.eq (.var 47) (.lit 0)) (.and (.imp (.lt (.var 9) (.var 29)) (.and (.pre (.call 2 49 [.sv (.one (.hptr (.var 8) (.lit 0)))] [.blk 8 ([.hptr (.var 0) (.lit 0), .int .i64 (.var 1), .int .i64 (.wrap .i64 (.mul (.lit 64) (.wrap .i64 (.sub (.var 2) (.lit 2)))))] ++ ckCVs 29 ([Ck.int .u64, Ck.int .u64] ++ List.replicate 16 (Ck.int .u8)) ++ [.sl (.lit (-1)) (.lit 0) (.lit 0) (.lit 0), .bool .ff]) 81, .hp 29 [9, 6, 4, 3] [.var 0] []] [])) (.ext (.call 2 49 [.sv (.one (.hptr (.var 8) (.lit 0)))] [.blk 8 ([.hptr (.var 0) (.lit 0), .int .i64 (.var 1), .int .i64 (.wrap .i64 (.mul (.lit 64) (.wrap .i64 (.sub (.var 2) (.lit 2)))))] ++ ckCVs 29 ([Ck.int .u64, Ck.int .u64] ++ List.replicate 16 (Ck.int .u8)) ++ [.sl (.lit (-1)) (.lit 0) (.lit 0) (.lit 0), .bool .ff]) 81, .hp 29 [9, 6, 4, 3] [.var 0] []] []) (.and (.imp (.not (.eq (.var 49) (.lit 0))) (.post [.hp 50 [29, 9, 6, 4, 3] [.var 0] [], .hp 49 [] [.var 8] [], .dead, .dead] (.tup [.one (.hptr (.lit (-1)) (.lit 0)), .one (.int .i64 (.var 49))]))) (.imp (.eq (.var 49) (.lit 0)) (.post [.hp 50 [29, 9, 6, 4, 3] [.var 0] [], .hp 49 [] [.var 8] [], .dead, .dead] (.tup [.one (.hptr (.var 8) (.lit 0)), .one (.int .i64 (.lit 0))]))))))) (.imp (.not (.lt (.var 9) (.var 29))) (.and (.pre (.call 2 49 [.sv (.one (.hptr (.var 8) (.lit 0)))] [.blk 8 ([.hptr (.var 0) (.lit 0), .int .i64 (.var 1), .int .i64 (.wrap .i64 (.mul (.lit 64) (.wrap .i64 (.sub (.var 2) (.lit 2)))))] ++ ckCVs 9 ([Ck.int .u64, Ck.int .u64] ++ List.replicate 16 (Ck.int .u8)) ++ [.sl (.lit (-1)) (.lit 0) (.lit 0) (.lit 0), .bool .ff]) 81, .hp 29 [9, 6, 4, 3] [.var 0] []] [])) (.ext (.call 2 49 [.sv (.one (.hptr (.var 8) (.lit 0)))] [.blk 8 ([.hptr (.var 0) (.lit 0), .int .i64 (.var 1), .int .i64 (.wrap .i64 (.mul (.lit 64) (.wrap .i64 (.sub (.var 2) (.lit 2)))))] ++ ckCVs 9 ([Ck.int .u64, Ck.int .u64] ++ List.replicate 16 (Ck.int .u8)) ++ [.sl (.lit (-1)) (.lit 0) (.lit 0) (.lit 0), .bool .ff]) 81, .hp 29 [9, 6, 4, 3] [.var 0] []] []) (.and (.imp (.not (.eq (.var 49) (.lit 0))) (.post [.hp 50 [29, 9, 6, 4, 3] [.var 0] [], .hp 49 [] [.var 8] [], .dead, .dead] (.tup [.one (.hptr (.lit (-1)) (.lit 0)), .one (.int .i64 (.var 49))]))) (.imp (.eq (.var 49) (.lit 0)) (.post [.hp 50 [29, 9, 6, 4, 3] [.var 0] [], .hp 49 [] [.var 8] [], .dead, .dead] (.tup [.one (.hptr (.var 8) (.lit 0)), .one (.int .i64 (.lit 0))])))))))))))))))))))))))))) (.imp (.lt (.var 4) (.var 1)) (.post [.hp 4 [3] [.var 0] []] (.tup [.one (.hptr (.lit (-1)) (.lit 0)), .one (.int .i64 (.lit 1))]))))))) (.imp (.lt (.var 1) (.lit 0)) (.post [.hp 3 [] [.var 0] []] (.tup [.one (.hptr (.lit (-1)) (.lit 0)), .one (.int .i64 (.lit 1))]))))) (.imp (.lt (.var 2) (.lit 3)) (.post [.hp 3 [] [.var 0] []] (.tup [.one (.hptr (.lit (-1)) (.lit 0)), .one (.int .i64 (.lit 1))])))
def openΓ : List Sx.Spec := [sectorsS, lreadS, loadS]
theorem openΓ_ok : ∀ t ∈ openΓ, t.OK Tryd.prog := fun t ht => by
  simp only [openΓ, List.mem_cons, List.mem_nil_iff, or_false] at ht
  rcases ht with rfl | rfl | rfl
  · exact sectorsS_ok
  · exact lreadS_ok
  · exact loadS_ok
def openW : Walk Tryd.prog openΓ openS.fn where
  Λ := noLoops
  args := [TP (.var 0) (.lit 0), TI .i64 (.var 1), TI .i64 (.var 2)]
  mem := [.hp 3 [] [.var 0] []]
  nv := 4
  nd := openNd
  ok := by kernel_rfl
theorem og0 : openΓ[0]? = some sectorsS := rfl
theorem og1 : openΓ[1]? = some lreadS := rfl
theorem og2 : openΓ[2]? = some loadS := rfl
theorem or0 : sectorsS.res = [.one (.int .i64)] := rfl
theorem or1 : lreadS.res = [.agg hdk, .one (.int .i64)] := rfl
theorem or2 : loadS.res = [.one (.int .i64)] := rfl
/-- A new log's block. -/
def oCs (l : List CV) : List CV := [.hptr (.var 0) (.lit 0), .int .i64 (.var 1), .int .i64 (.wrap .i64 (.mul (.lit 64) (.wrap .i64 (.sub (.var 2) (.lit 2)))))] ++ l ++ [.sl (.lit (-1)) (.lit 0) (.lit 0) (.lit 0), .bool .ff]
theorem oBlk {q : Env} {l : List CV} {da : Nat} {frm n : Int} {h : List Int} (h0 : q.i 0 = da) (h1 : q.i 1 = frm) (h2 : q.i 2 = n) (hn : 3 ≤ n ∧ n ≤ 16384) (hh : h.length = 18) (hl : l.map (CV.ev q) = hdV h) :
    (Res.blk 8 (oCs l) 81).hl q = Hl.one (q.i 8).toNat (lObj (.pointer (some ⟨da, 0, none⟩)) (.slice none 0 0) (headL frm (64 * (n - 2)) h)) := by
  show Hl.one (q.i 8).toNat (.cells ((oCs l).map (CV.ev q)).toArray _ (0, 0)) = _
  have e : (oCs l).map (CV.ev q) = lCells (.pointer (some ⟨da, 0, none⟩)) (.slice none 0 0) (headL frm (64 * (n - 2)) h) := by
    unfold oCs
    rw [List.map_append, List.map_append, hl]
    have ep : Value.pointer (slP (q.i 0) 0) = .pointer (some ⟨da, 0, none⟩) := by rw [h0, dArg]
    have em : IntKind.i64.wrap (64 * IntKind.i64.wrap (q.i 2 - 2)) = 64 * (n - 2) := by
      rw [h2, wrap_i64 (n := n - 2) (by omega) (by omega), wrap_i64 (by omega) (by omega)]
    show [Value.pointer (slP (q.i 0) 0), Value.int .i64 (q.i 1), Value.int .i64 (IntKind.i64.wrap (64 * IntKind.i64.wrap (q.i 2 - 2)))] ++ hdV h ++ [Value.slice (slP (-1) 0) 0 0, Value.bool false] = _
    rw [ep, em, h1, slP_nil]
    unfold lCells headL hdV
    simp only [List.cons_append, List.nil_append, List.append_assoc]
  rw [e]; rfl
theorem hd_first {q : Env} {n : Nat} {h : List Int} (e : (ckCVs n hdk).map (CV.ev q) = hdV h) : q.i n = h.getD 0 0 := by
  have := congrArg (fun l => l[0]?) e
  simpa [hdk, ckCVs, Ck.cv, CV.ev, hdV, iev_var] using this
theorem headL_ok {frm n : Int} {h : List Int} (hf : 0 ≤ frm ∧ frm ≤ 16384) (hn : 3 ≤ n ∧ n ≤ 16384) (hh : h.length = 18) : (headL frm (64 * (n - 2)) h).ok := ⟨hf, ⟨by show 0 ≤ 64 * (n - 2); omega, by show 64 * (n - 2) ≤ _; omega⟩, by show (h.drop 2).length = 16; rw [List.length_drop]; omega⟩
theorem openS_ok : openS.OK Tryd.prog := by
  refine Spec.of_fn (Γ := openΓ) openΓ_ok ?_
  rintro xs Hs Rs hl1 hl2 ⟨dp, frm, n, H, D, rfl, rfl, hD⟩
  have e1 : Rs = [] := List.length_eq_zero_iff.1 hl2
  subst e1
  obtain ⟨da, s, m, es, clock, hdp, hDi⟩ := id hD
  have hDn := hDi.ok.n
  refine ⟨openW, envI [da, frm, n] false [Hl.none, Hl.none, Hl.none, H], fun _ _ => True, fun _ _ => 0, ?_, ⟨?_, ?_, ?_, ?_⟩, (fun _ h => nomatch h), ?_⟩
  · show [Value.pointer (slP (da : Int) 0), Value.int .i64 frm, Value.int .i64 n] = _; rw [dArg, hdp]
  · intro r hr ho
    simp [openW] at hr
    subst hr
    exact ⟨H, by simp, Hl.le_refl _⟩
  · intro r hr ho
    simp [openW] at hr
    subst hr; cases ho
  · simp [openW]
  · intro r hr
    simp [openW] at hr
    subst hr; trivial
  · show Nd.holds _ _ _ openNd
    generalize hρ : envI [(da : Int), frm, n] false [Hl.none, Hl.none, Hl.none, H] = ρ
    have v0 : ρ.i 0 = da := by rw [← hρ]; rfl
    have v1 : ρ.i 1 = frm := by rw [← hρ]; rfl
    have v2 : ρ.i 2 = n := by rw [← hρ]; rfl
    have w3 : ρ.h 3 = H := by rw [← hρ]; rfl
    have ep : Value.pointer (slP (da : Int) 0) = dp := by rw [dArg, hdp]
    have bad : ∀ (q : Env) (k : Nat) (vs : List Nat) (t : Mem) (x : E) (e : Int), DiskAt (q.h k) dp D → iev q x = e → openE D frm n = e → e ≠ 0 →
        postOf openS [dp, .int .i64 frm, .int .i64 n] [H] [] q (.hp k vs [.var 0] [] :: t) (.tup [.one (.hptr (.lit (-1)) (.lit 0)), .one (.int .i64 x)]) := by
      intro q k vs t x e hq hx he hne _
      refine ⟨[[0]], [], rfl, rfl, ⟨⟨fun j => [-1, 0, e].getD j 0, fun _ => false, fun _ => .empty, fun _ => .tuple #[], fun _ => Hl.none⟩, ?_, ⟨by show (-1 : Int) ≤ -1; omega, Int.le_refl _⟩, trivial, trivial⟩, dp, frm, n, H, D, _, .pointer none, rfl, rfl, hD, rfl, ?_, ?_, fun h => absurd (he.symm.trans h) hne, fun _ => rfl⟩
      · subst hx; rfl
      · show DiskAt (hls [q.h k]) _ _
        rw [hls_one]; exact hq
      · rw [he, ← hx]; rfl
    unfold openNd
    simp only [Nd.holds, X.pre, X.rel, X.n, Src.ok, Src.len, Src.vals, true_and, and_true, if_true, Nat.mul_one, Nat.add_zero, Nat.reduceAdd, List.length_cons, List.length_nil, bT_tt, bT_ff, bT_bvar, bT_not, bT_and, bT_or, bT_ite, bT_lt, bT_le, bT_eq, bT_beq, bT_seq, bT_hB, bT_his, bT_hby, bT_hism, bT_hks, iev_lit, iev_var, iev_add, iev_sub, iev_mul, iev_wrap, iev_ite, iev_hI, iev_hP, iev_hmlen, sev_ite, sev_slit, sev_sof, sev_svar, TV.ev, SV.ev, CV.ev, List.map_cons, List.map_nil, Res.hl, cpTV, Cp.sv, Ck.cv, cpSVs, Cp.len, Ck.len, newHs_zero, newHs_one, roots_ne, og0, og1, og2, or0, or1, or2]
    rw [v0, v1, v2, w3, ep]
    refine ⟨fun h3 => ⟨fun h0 => ⟨⟨dp, H, D, rfl, rfl, hD⟩, fun q1 g1 ⟨F, ⟨p', H', D', H2, hx, hH, hD', hH2, hD2, hv⟩, _, _⟩ => ?_⟩, fun h0 => bad _ 3 _ _ _ 1 (by rw [w3]; exact hD) (iev_lit _ _) (by unfold openE; rw [if_pos (Or.inr (Or.inl h0))]) (by decide)⟩, fun h3 => bad _ 3 _ _ _ 1 (by rw [w3]; exact hD) (iev_lit _ _) (by unfold openE; rw [if_pos (Or.inl h3)]) (by decide)⟩
    cases hx
    cases hH
    have e := hD'.uniq hD
    subst e
    simp only [Value.int.injEq, true_and, List.cons.injEq, and_true] at hv hH2
    rw [← hH2] at hD2
    have hv : q1.i 4 = D'.n := hv
    rw [g1.i 0 (by omega), g1.i 1 (by omega), v0, v1, hv, ep]
    refine ⟨fun hlt => ⟨⟨dp, _, D', rfl, rfl, hD2⟩, fun q2 g2 ⟨F, ⟨p', H', D1, H3, hx, hH, hD', hH3, hD3, hv3⟩, _, _⟩ => ?_⟩, fun hlt => bad _ 4 _ _ _ 1 hD2 (iev_lit _ _) (by unfold openE; rw [if_pos (Or.inr (Or.inr (Or.inl hlt)))]) (by decide)⟩
    cases hx
    cases hH
    have e := hD'.uniq hD2
    subst e
    simp only [Value.int.injEq, true_and, List.cons.injEq, and_true] at hv3 hH3
    rw [← hH3] at hD3
    have hv3 : q2.i 6 = D1.n := hv3
    have h3 : 3 ≤ n := by omega
    have h0 : 0 ≤ frm := by omega
    have hlt : frm ≤ D1.n := by omega
    have esub : IntKind.i64.wrap ((D1.n : Int) - frm) = D1.n - frm := wrap_i64 (by omega) (by omega)
    rw [g2.i 1 (by omega), g2.i 2 (by omega), g1.i 1 (by omega), g1.i 2 (by omega), v1, v2, hv3, esub]
    refine ⟨fun hr => bad _ 6 _ _ _ 1 hD3 (iev_lit _ _) (by unfold openE; rw [if_pos (Or.inr (Or.inr (Or.inr hr)))]) (by decide), fun hr q3 g3 p8 => ?_⟩
    have hr : n ≤ D1.n - frm := by omega
    have G3 : Agree 4 ρ q3 := (g1.trans (g2.mono (by omega))).trans (g3.mono (by omega))
    have hn16 : 3 ≤ n ∧ n ≤ 16384 := ⟨h3, by omega⟩
    have hf16 : 0 ≤ frm ∧ frm ≤ 16384 := ⟨h0, by omega⟩
    have hm0 : 0 ≤ 64 * (n - 2) := by omega
    have ep8 : ∀ q : Env, 0 ≤ q.i 8 → Value.pointer (slP (q.i 8) 0) = .pointer (some ⟨(q.i 8).toNat, 0, none⟩) := fun q h => by rw [slP_pos h]; rfl
    have rd : ∀ (q : Env) (l : List CV) (h : List Int), Agree 4 ρ q → h.length = 18 → l.map (CV.ev q) = hdV h → 0 ≤ q.i 8 →
        LogIn ((Res.blk 8 (oCs l) 81).hl q) (q.i 8).toNat dp (.slice none 0 0) (headL frm (64 * (n - 2)) h) := by
      intro q l h hq hh hl h8
      refine ⟨headL_ok hf16 hn16 hh, ?_⟩
      rw [oBlk (by rw [hq.i 0 (by omega), v0]) (by rw [hq.i 1 (by omega), v1]) (by rw [hq.i 2 (by omega), v2]) hn16 hh hl, hdp]
      exact Hl.one_self _ _
    have call : ∀ (q : Env) (l : List CV) (h : List Int) (k : Nat) (place : Int), Agree 4 ρ q → h.length = 18 → l.map (CV.ev q) = hdV h → 0 ≤ q.i 8 → DiskAt (q.h k) dp D1 → (place = 0 ∨ place = 1) →
        lreadS.pre [.pointer (slP (q.i 8) 0), .int .u64 place] [q.h k] [(Res.blk 8 (oCs l) 81).hl q] := by
      intro q l h k place hq hh hl h8 hd hp
      exact ⟨_, place, _, _, dp, _, _, D1, rfl, rfl, rfl, ⟨_, ep8 q h8, rd q l h hq hh hl h8⟩, hd, hp⟩
    have back : ∀ (q : Env) (l : List CV) (h : List Int) (k : Nat) (place : Int) (v : Value) (H' F : Hl), Agree 4 ρ q → h.length = 18 → l.map (CV.ev q) = hdV h → 0 ≤ q.i 8 → DiskAt (q.h k) dp D1 →
        lreadS.post [.pointer (slP (q.i 8) 0), .int .u64 place] [q.h k] [(Res.blk 8 (oCs l) 81).hl q] v [H'] F →
        DiskAt H' dp D1 ∧ v = .tuple #[.agg (hdV (lreadR D1 frm (64 * (n - 2)) place).1).toArray, .int .i64 (lreadR D1 frm (64 * (n - 2)) place).2] := by
      intro q l h k place v H' F hq hh hl h8 hd ⟨p', place', Hx, R, dp', sl', L', Dx, H'', hx, hH, hR, hL, hDx, hH', hDy, hvq⟩
      cases hx
      cases hH
      have hR : (Res.blk 8 (oCs l) 81).hl q = R := by simpa using hR
      subst hR
      obtain ⟨e1, e2, e3⟩ := hL.uniq ⟨_, ep8 q h8, rd q l h hq hh hl h8⟩
      subst e1 e2 e3
      have e := hDx.uniq hd
      subst e
      simp only [List.cons.injEq, and_true] at hH'
      subst hH'
      exact ⟨hDy, hvq⟩
    have inr : ∀ place : Int, place = 0 ∨ place = 1 → D1.has (frm + place) = true := by
      intro place hp
      unfold DM.has
      simp only [decide_eq_true_eq]
      omega
    have oE : openE D1 frm n = if D1.gone then 5 else 0 := by
      unfold openE
      rw [if_neg (by omega)]
    have leaf : ∀ (q : Env) (l : List CV) (h : List Int), Agree 4 ρ q → headOK h → h.getD 1 0 ≤ 64 * (n - 2) → l.map (CV.ev q) = hdV h → 0 ≤ q.i 8 → DiskAt (q.h 29) dp D1 → D1.gone = false → openH D1 frm n = h →
        (loadS.pre [.pointer (slP (q.i 8) 0)] [(Res.blk 8 (oCs l) 81).hl q, q.h 29] [] ∧
        ∀ q' : Env, Agree 49 q q' → (∃ F, loadS.post [.pointer (slP (q.i 8) 0)] [(Res.blk 8 (oCs l) 81).hl q, q.h 29] [] (.int .i64 (q'.i 49)) (newHs q' 49 2) F ∧ (cpRoots 0 [Cp.one (Ck.int .i64)] ≠ [] → q'.h 51 = F) ∧ cpNorms 49 [Cp.one (Ck.int .i64)] q') →
          (¬ q'.i 49 = 0 → postOf openS [dp, .int .i64 frm, .int .i64 n] [H] [] q' [.hp 50 [29, 9, 6, 4, 3] [.var 0] [], .hp 49 [] [.var 8] [], .dead, .dead] (.tup [.one (.hptr (.lit (-1)) (.lit 0)), .one (.int .i64 (.var 49))])) ∧
          (q'.i 49 = 0 → postOf openS [dp, .int .i64 frm, .int .i64 n] [H] [] q' [.hp 50 [29, 9, 6, 4, 3] [.var 0] [], .hp 49 [] [.var 8] [], .dead, .dead] (.tup [.one (.hptr (.var 8) (.lit 0)), .one (.int .i64 (.lit 0))]))) := by
      intro q l h hq hh hmost hl h8 hd hgone hoH
      refine ⟨⟨_, _, _, _, dp, _, D1, rfl, rfl, ep8 q h8, rd q l h hq hh.1 hl h8, hd, hgone, hh.2.2.1, ?_⟩, fun q' g' ⟨F, ⟨p', a', HL, HDk, dp', L', Dx, HL', HD', hx, hH, hp, hL, hDx, hH', hDy, hAt, hvq⟩, _, _⟩ => ?_⟩
      · show 64 * (frm + 2) + h.getD 1 0 ≤ 64 * (D1.n : Int)
        omega
      · have hx : Value.pointer (slP (q.i 8) 0) = p' := by simpa using hx
        subst hx
        have hH : (Res.blk 8 (oCs l) 81).hl q = HL ∧ q.h 29 = HDk := by simpa using hH
        obtain ⟨hH1, hH2⟩ := hH
        subst hH1 hH2
        have e := hDx
        obtain ⟨e1, e2, e3⟩ := LogRd.uniq ⟨a', hp, hL⟩ ⟨_, ep8 q h8, rd q l h hq hh.1 hl h8⟩
        subst e1 e3
        have e := hDx.uniq hd
        subst e
        have hH' : q'.h 49 = HL' ∧ q'.h 50 = HD' := by
          have h1 : [q'.h 49, q'.h 50] = [HL', HD'] := hH'
          simpa using h1
        obtain ⟨h49, h50⟩ := hH'
        simp only [Value.int.injEq, true_and] at hvq
        refine ⟨fun h => absurd hvq h, fun _ _ => ⟨[[0]], [1], rfl, rfl, ⟨⟨fun j => [q'.i 8, 0, 0].getD j 0, fun _ => false, fun _ => .empty, fun _ => .tuple #[], fun _ => Hl.none⟩, rfl, ⟨?_, Int.le_refl _⟩, trivial, trivial⟩, _, frm, n, H, Dx, _, Value.pointer (slP (q'.i 8) 0), rfl, rfl, hD, rfl, ?_, ?_, fun _ => ?_, fun h => absurd (by rw [oE, hgone]; rfl) h⟩⟩
        · show -1 ≤ q'.i 8
          rw [g'.i 8 (by omega)]; omega
        · show DiskAt (hls [q'.h 50]) _ _
          rw [hls_one, h50]; exact hDy
        · rw [oE, hgone]; rfl
        · show LogAt (hls [q'.h 49]) _ _ _ _
          rw [hls_one, h49, g'.i 8 (by omega)]
          unfold openB openL
          rw [hoH]
          exact hAt
    have z18 : ∀ q : Env, ([CV.int .u64 (.lit 0), CV.int .u64 (.lit 0)] ++ List.replicate 16 (CV.int .u8 (.lit 0))).map (CV.ev q) = hdV zeros18 := fun q => rfl
    obtain ⟨ok0, le0⟩ := lread_head hDi.ok frm hm0 0
    obtain ⟨ok1, le1⟩ := lread_head hDi.ok frm hm0 1
    have hD6 : DiskAt (q3.h 6) dp D1 := by rw [g3.h 6 (by omega)]; exact hD3
    refine ⟨call q3 _ zeros18 6 0 G3 rfl (z18 q3) p8 hD6 (Or.inl rfl), fun q4 g4 ⟨F, hp4, _, _⟩ q5 g5 _ => ?_⟩
    obtain ⟨hD9, hv4⟩ := back q3 _ zeros18 6 0 _ _ _ G3 rfl (z18 q3) p8 hD6 hp4
    simp only [Value.tuple.injEq, Array.mk.injEq, List.cons.injEq, Value.int.injEq, Value.agg.injEq, true_and, and_true] at hv4
    obtain ⟨hh4, hc4⟩ := hv4
    have hc4 : q4.i 27 = (lreadR D1 frm (64 * (n - 2)) 0).2 := hc4
    rw [lread_code (inr 0 (Or.inl rfl))] at hc4
    have G5 : Agree 4 ρ q5 := (G3.trans (g4.mono (by omega))).trans (g5.mono (by omega))
    have hh5 : List.map (CV.ev q5) (ckCVs 9 hdk) = hdV (lreadR D1 frm (64 * (n - 2)) 0).1 := by
      rw [CV.agreeL (g5.mono (by decide)) _ (ckCVs_upto hdk 9)]
      exact hh4
    have p85 : 0 ≤ q5.i 8 := by rw [g5.i 8 (by omega), g4.i 8 (by omega)]; exact p8
    have hD95 : DiskAt (q5.h 9) dp D1 := by rw [g5.h 9 (by omega)]; exact hD9
    refine ⟨fun h27 => bad q5 9 _ _ _ 5 hD95 (by rw [iev_var, g5.i 27 (by omega), hc4, if_pos]; exact Classical.byContradiction fun hg => h27 (by rw [g5.i 27 (by omega), hc4, if_neg hg])) (by rw [oE, if_pos]; exact Classical.byContradiction fun hg => h27 (by rw [g5.i 27 (by omega), hc4, if_neg hg])) (by decide), fun h27 => ?_⟩
    have hgone : D1.gone = false := by
      cases hg : D1.gone with
      | false => rfl
      | true => rw [g5.i 27 (by omega), hc4, hg] at h27; cases h27
    have mid : ∀ (q6 : Env), Agree 29 q5 q6 → ∀ F, lreadS.post [.pointer (slP (q5.i 8) 0), .int .u64 1] [q5.h 9] [(Res.blk 8 (oCs (ckCVs 9 hdk)) 81).hl q5] (.tuple #[.agg (List.map (CV.ev q6) (ckCVs 29 hdk)).toArray, .int .i64 (q6.i 47)]) [q6.h 29] F →
        ∀ q7, Agree 48 q6 q7 → q7.i 47 = 0 ∧ Agree 4 ρ q7 ∧ 0 ≤ q7.i 8 ∧ DiskAt (q7.h 29) dp D1 ∧ List.map (CV.ev q7) (ckCVs 29 hdk) = hdV (lreadR D1 frm (64 * (n - 2)) 1).1 ∧ List.map (CV.ev q7) (ckCVs 9 hdk) = hdV (lreadR D1 frm (64 * (n - 2)) 0).1 := by
      intro q6 g6 F hp6 q7 g7
      obtain ⟨hD29, hv6⟩ := back q5 _ _ 9 1 _ _ _ G5 ok0.1 hh5 p85 hD95 hp6
      simp only [Value.tuple.injEq, Array.mk.injEq, List.cons.injEq, Value.int.injEq, Value.agg.injEq, true_and, and_true] at hv6
      obtain ⟨hh6, hc6⟩ := hv6
      rw [lread_code (inr 1 (Or.inr rfl)), hgone] at hc6
      refine ⟨by rw [g7.i 47 (by omega), hc6]; rfl, (G5.trans (g6.mono (by omega))).trans (g7.mono (by omega)), by rw [g7.i 8 (by omega), g6.i 8 (by omega)]; exact p85, by rw [g7.h 29 (by omega)]; exact hD29, ?_, ?_⟩
      · rw [CV.agreeL (g7.mono (by decide)) _ (ckCVs_upto hdk 29)]; exact hh6
      · rw [CV.agreeL ((g6.trans (g7.mono (by omega))).mono (by decide)) _ (ckCVs_upto hdk 9)]; exact hh5
    have both : ∀ (q7 : Env), Agree 4 ρ q7 → 0 ≤ q7.i 8 → DiskAt (q7.h 29) dp D1 → List.map (CV.ev q7) (ckCVs 29 hdk) = hdV (lreadR D1 frm (64 * (n - 2)) 1).1 → List.map (CV.ev q7) (ckCVs 9 hdk) = hdV (lreadR D1 frm (64 * (n - 2)) 0).1 →
        (q7.i 9 < q7.i 29 → openH D1 frm n = (lreadR D1 frm (64 * (n - 2)) 1).1) ∧ (¬ q7.i 9 < q7.i 29 → openH D1 frm n = (lreadR D1 frm (64 * (n - 2)) 0).1) := by
      intro q7 _ _ _ h1 h2
      rw [hd_first h1, hd_first h2]
      exact ⟨fun h => by unfold openH; rw [if_pos h], fun h => by unfold openH; rw [if_neg h]⟩
    constructor
    · intro _
      refine ⟨call q5 _ _ 9 1 G5 ok0.1 hh5 p85 hD95 (Or.inr rfl), fun q6 g6 ⟨F, hp6, _, _⟩ q7 g7 _ => ?_⟩
      obtain ⟨z1, z2, z3, z4, z5, z6⟩ := mid q6 g6 F hp6 q7 g7
      obtain ⟨b1, b2⟩ := both q7 z2 z3 z4 z5 z6
      exact ⟨fun h => absurd z1 h, fun _ => ⟨fun hlt => leaf q7 (ckCVs 29 hdk) _ z2 ok1 le1 z5 z3 z4 hgone (b1 hlt), fun hge => leaf q7 (ckCVs 9 hdk) _ z2 ok0 le0 z6 z3 z4 hgone (b2 hge)⟩⟩
    · intro _
      refine ⟨call q5 _ _ 9 1 G5 ok0.1 hh5 p85 hD95 (Or.inr rfl), fun q6 g6 ⟨F, hp6, _, _⟩ q7 g7 _ => ?_⟩
      obtain ⟨z1, z2, z3, z4, z5, z6⟩ := mid q6 g6 F hp6 q7 g7
      obtain ⟨b1, b2⟩ := both q7 z2 z3 z4 z5 z6
      exact ⟨fun h => absurd z1 h, fun _ => ⟨fun hlt => leaf q7 (ckCVs 29 hdk) _ z2 ok1 le1 z5 z3 z4 hgone (b1 hlt), fun hge => leaf q7 (ckCVs 9 hdk) _ z2 ok0 le0 z6 z3 z4 hgone (b2 hge)⟩⟩
end Go.Proofs.YtomdimlnggpgbaaDoor.D
