/- Layer 7: the reference disk's New and Write, as contracts. No condition. -/
import Derived.Test.YtdohcabnaihaoaaRfB
set_option linter.unusedSimpArgs false
set_option linter.unusedVariables false
set_option linter.constructorNameAsVariable false
namespace Go.Proofs.Ytdohcabnaihaoaa
open Go Go.Sx

def z64 : List Int := List.replicate 64 0
def rnewM (n : Int) : RM := ⟨List.replicate (sects n) z64, List.replicate (sects n) z64, List.replicate (sects n) false, -1, false⟩
theorem sects_le (n : Int) : sects n ≤ 16384 := by unfold sects; omega
theorem rnewM_ok (n : Int) : (rnewM n).ok := by
  refine ⟨fun r hr => ?_, fun r hr => ?_, ?_, ?_, ?_, Int.le_refl _, (by decide : (-1 : Int) ≤ 9223372036854775807)⟩
  · rw [List.eq_of_mem_replicate hr]; rfl
  · rw [List.eq_of_mem_replicate hr]; rfl
  · show (List.replicate _ _).length = (List.replicate _ _).length
    simp only [List.length_replicate]
  · show (List.replicate _ _).length = (List.replicate _ _).length
    simp only [List.length_replicate]
  · show (List.replicate _ _).length ≤ _
    rw [List.length_replicate]; exact sects_le n
def rnewS : Sx.Spec where
  fn := 19
  own := []
  rd := []
  res := [.one .ptr]
  pre := fun xs Hs Rs => ∃ n : Int, xs = [.int .i64 n]
  post := fun xs Hs Rs v Hs' F => ∃ n : Int, xs = [.int .i64 n] ∧ RefAt F v (rnewM n)
def rnewNd : Nd := .ext (.alloc 1) (.and (.inv 0 (([⟨40, 0, .int .i64 (.lit 0)⟩] : List As) ++ (mLd 2 [.sl (.var 20) (.lit 0) (.var 21) (.var 22), .sl (.var 23) (.lit 0) (.var 24) (.var 25), .sl (.var 26) (.lit 0) (.var 27) (.var 28), .int .i64 (.lit (-1)), .bool .ff] [.sl (.lit (-1)) (.lit 0) (.lit 0) (.lit 0), .sl (.lit (-1)) (.lit 0) (.lit 0) (.lit 0), .sl (.lit (-1)) (.lit 0) (.lit 0) (.lit 0), .int .i64 (.lit (-1)), .bool .ff])) [(30, none), (31, none), (32, none)]) (.havoc 0 0 2 (.and (.imp (.lt (.var 40) (.var 0)) (.and (.imp (.lt (.var 40) (.lit 16384)) (.and (.pre (.mk 50 5 [.int .u8 (.lit 0)] 1 (.lit 64))) (.ext (.mk 50 5 [.int .u8 (.lit 0)] 1 (.lit 64)) (.ext (.alloc 51) (.ext (.mrg 52 (.hp 30 [] [.var 20] []) (.blk 50 (List.replicate 64 (CV.int .u8 (.lit 0))) 5)) (.and (.pre (.app 53 22 1 24 (.sl (.var 20) (.lit 0) (.var 21) (.var 22)) (.var 21) (.hp 52 [30] [.var 20, .var 50] []) (.cvs [.sl (.var 50) (.lit 0) (.lit 64) (.lit 64)] 1))) (.ext (.app 53 22 1 24 (.sl (.var 20) (.lit 0) (.var 21) (.var 22)) (.var 21) (.hp 52 [30] [.var 20, .var 50] []) (.cvs [.sl (.var 50) (.lit 0) (.lit 64) (.lit 64)] 1)) (.and (.pre (.mk 55 5 [.int .u8 (.lit 0)] 1 (.lit 64))) (.ext (.mk 55 5 [.int .u8 (.lit 0)] 1 (.lit 64)) (.ext (.alloc 56) (.ext (.mrg 57 (.hp 31 [] [.var 23] []) (.blk 55 (List.replicate 64 (CV.int .u8 (.lit 0))) 5)) (.and (.pre (.app 58 22 1 24 (.sl (.var 23) (.lit 0) (.var 24) (.var 25)) (.var 24) (.hp 57 [31] [.var 23, .var 55] []) (.cvs [.sl (.var 55) (.lit 0) (.lit 64) (.lit 64)] 1))) (.ext (.app 58 22 1 24 (.sl (.var 23) (.lit 0) (.var 24) (.var 25)) (.var 24) (.hp 57 [31] [.var 23, .var 55] []) (.cvs [.sl (.var 55) (.lit 0) (.lit 64) (.lit 64)] 1)) (.ext (.alloc 60) (.and (.pre (.app 61 4 1 1 (.sl (.var 26) (.lit 0) (.var 27) (.var 28)) (.var 27) (.hp 32 [] [.var 26] []) (.cvs [.bool .ff] 1))) (.ext (.app 61 4 1 1 (.sl (.var 26) (.lit 0) (.var 27) (.var 28)) (.var 27) (.hp 32 [] [.var 26] []) (.cvs [.bool .ff] 1)) (.back 0 0 (([⟨40, 0, .int .i64 (.wrap .i64 (.add (.var 40) (.lit 1)))⟩] : List As) ++ (mLd 2 [.sl (.var 20) (.lit 0) (.var 21) (.var 22), .sl (.var 23) (.lit 0) (.var 24) (.var 25), .sl (.var 26) (.lit 0) (.var 27) (.var 28), .int .i64 (.lit (-1)), .bool .ff] [.sl (.var 53) (.lit 0) (.add (.var 21) (.lit 1)) (.var 54), .sl (.var 58) (.lit 0) (.add (.var 24) (.lit 1)) (.var 59), .sl (.var 61) (.lit 0) (.add (.var 27) (.lit 1)) (.var 62), .int .i64 (.lit (-1)), .bool .ff])) [(30, some 53), (31, some 58), (32, some 61)]))))))))))))))))) (.imp (.not (.lt (.var 40) (.lit 16384))) (.post [.blk 1 [.sl (.var 20) (.lit 0) (.var 21) (.var 22), .sl (.var 23) (.lit 0) (.var 24) (.var 25), .sl (.var 26) (.lit 0) (.var 27) (.var 28), .int .i64 (.lit (-1)), .bool .ff] 66, .hp 30 [] [.var 20] [], .hp 31 [] [.var 23] [], .hp 32 [] [.var 26] []] (.sv (.one (.hptr (.var 1) (.lit 0)))))))) (.imp (.not (.lt (.var 40) (.var 0))) (.post [.blk 1 [.sl (.var 20) (.lit 0) (.var 21) (.var 22), .sl (.var 23) (.lit 0) (.var 24) (.var 25), .sl (.var 26) (.lit 0) (.var 27) (.var 28), .int .i64 (.lit (-1)), .bool .ff] 66, .hp 30 [] [.var 20] [], .hp 31 [] [.var 23] [], .hp 32 [] [.var 26] []] (.sv (.one (.hptr (.var 1) (.lit 0)))))))))
def rnewBlk : List CV := [.sl (.var 20) (.lit 0) (.var 21) (.var 22), .sl (.var 23) (.lit 0) (.var 24) (.var 25), .sl (.var 26) (.lit 0) (.var 27) (.var 28), .int .i64 (.lit (-1)), .bool .ff]
def rnewW : Walk Try.prog [] rnewS.fn where
  Λ := fun p => if lp p then some ⟨0, [(4, TI .i64 (.var 40))], [(0, .blk 1 rnewBlk 66), (1, .hp 30 [] [.var 20] []), (2, .hp 31 [] [.var 23] []), (3, .hp 32 [] [.var 26] [])], 50⟩ else none
  args := [TI .i64 (.var 0)]
  mem := []
  nv := 1
  nd := rnewNd
  ok := by kernel_rfl
def rnewInv (n : Int) (_ : Nat) (q : Env) : Prop := ∃ k : Nat, q.i 40 = k ∧ k ≤ sects n ∧ q.i 21 = k ∧ q.i 24 = k ∧ q.i 27 = k ∧ (-1 ≤ q.i 20 ∧ 0 ≤ q.i 22) ∧ (-1 ≤ q.i 23 ∧ 0 ≤ q.i 25) ∧ (-1 ≤ q.i 26 ∧ 0 ≤ q.i 28) ∧
  RowsO (q.h 30) (sv0 (q.i 20) k (q.i 22)) (List.replicate k z64) ∧ RowsO (q.h 31) (sv0 (q.i 23) k (q.i 25)) (List.replicate k z64) ∧ OwnsH (q.h 32) 4 1 (sv0 (q.i 26) k (q.i 28)) k (List.replicate k (.bool false))
theorem rowO_zero {q : Env} {b : Int} (hb : 0 ≤ b) : RowO (Hl.one b.toNat (.cells (List.map (CV.ev q) (List.replicate 64 (CV.int .u8 (.lit 0)))).toArray 5 (0, 0))) none (.slice (slP b 0) 64 64) z64 := by
  refine ⟨b.toNat, 64, _, by rw [slP_pos hb]; rfl, by simp, Hl.one_self _ _, ?_⟩
  rw [List.map_replicate]
  rfl
theorem rowsO_app {q4 q5 : Env} {G : Hl} {F B : Hl} {x c x' c' : Int} {k : Nat} {rows : List (List Int)} {u : Value} {r : List Int} (h : RowsO F (sv0 x k c) rows) (hk : rows.length = k) (hd : F.dis B) (hu : RowO B none u r) (hx' : -1 ≤ x')
    (happ : ∀ xs, OwnsH (F.un B) 22 1 (sv0 x k c) ((k : Int)).toNat xs → OwnsH G 22 1 (.slice (slP x' 0) (((k : Int)).toNat + 1) c'.toNat) (((k : Int)).toNat + 1) (xs ++ [u]))
    (hkeep : ∀ b, (F.un B).mem b → some b ≠ (sv0 x k c).ownBlock → G b = (F.un B) b) (hnew : some x'.toNat = (sv0 x k c).ownBlock ∨ ¬ (F.un B).mem x'.toNat ∨ x' = -1) : RowsO G (sv0 x' (k + 1) c') (rows ++ [r]) := by
  refine RowsO.snoc (v := sv0 x k c) h hd hu ?_ hkeep ?_
  · intro xs hxs
    rw [hk] at hxs ⊢
    have := happ xs (by rw [Int.toNat_natCast]; exact hxs)
    rw [Int.toNat_natCast] at this
    show OwnsH G _ 1 (.slice (slP x' 0) (((k + 1 : Nat) : Int)).toNat c'.toNat) _ _
    rw [Int.toNat_natCast]
    exact this
  · exact app_new hx' hnew
theorem rnewS_ok : rnewS.OK Try.prog := by
  refine Spec.of_fn (Γ := []) (fun _ h => by cases h) ?_
  rintro xs Hs Rs hl1 hl2 ⟨n, rfl⟩
  have e0 : Hs = [] := List.length_eq_zero_iff.1 hl1
  have e1 : Rs = [] := List.length_eq_zero_iff.1 hl2
  subst e0 e1
  refine ⟨rnewW, envI [n] false [], rnewInv n, fun _ q => ((sects n : Int) - q.i 40).toNat, rfl, ⟨fun r hr => (by cases hr), fun r hr => (by cases hr), List.Pairwise.nil, fun r hr => (by cases hr)⟩, (fun _ h => nomatch h), ?_⟩
  show Nd.holds _ _ _ rnewNd
  generalize hρ : envI [n] false [] = ρ
  have v0 : ρ.i 0 = n := by rw [← hρ]; rfl
  unfold rnewNd
  simp only [Nd.holds, X.pre, X.rel, X.n, Src.ok, Src.len, Src.vals, true_and, and_true, if_true, Nat.mul_one, Nat.add_zero, Nat.reduceAdd, List.length_cons, List.length_nil, bT_tt, bT_ff, bT_bvar, bT_not, bT_and, bT_or, bT_ite, bT_lt, bT_le, bT_eq, bT_beq, bT_seq, bT_hB, bT_his, bT_hby, bT_hism, bT_hks, iev_lit, iev_var, iev_add, iev_sub, iev_mul, iev_wrap, iev_ite, iev_hI, iev_hP, iev_hmlen, sev_ite, sev_slit, sev_sof, sev_svar, TV.ev, SV.ev, CV.ev, List.map_cons, List.map_nil, Res.hl]
  intro q1 g1 p1
  refine ⟨⟨0, rfl, Nat.zero_le _, rfl, rfl, rfl, ⟨Int.le_refl _, Int.le_refl _⟩, ⟨Int.le_refl _, Int.le_refl _⟩, ⟨Int.le_refl _, Int.le_refl _⟩, RowsO.nil _, RowsO.nil _, ⟨rfl, Or.inl ⟨rfl, rfl⟩⟩⟩, fun q g ⟨k, e40, hk, e21, e24, e27, r1, r2, r3, hA, hB, hC⟩ => ?_⟩
  have vn : q.i 0 = n := by rw [g.i 0 (by omega), g1.i 0 (by omega), v0]
  rw [vn, e40]
  have hs : (sects n : Int) = min (max n 0) 16384 := by unfold sects; omega
  have p1 : 0 ≤ q.i 1 := by rw [g.i 1 (by omega)]; exact p1
  have out : k = sects n → postOf rnewS [.int .i64 n] [] [] q [.blk 1 rnewBlk 66, .hp 30 [] [.var 20] [], .hp 31 [] [.var 23] [], .hp 32 [] [.var 26] []] (.sv (.one (.hptr (.var 1) (.lit 0)))) := by
    intro hks hd
    subst hks
    refine ⟨[], [0, 1, 2, 3], rfl, rfl, ⟨(q.setI 0 (q.i 1)).setI 1 0, rfl, ⟨by show -1 ≤ q.i 1; omega, Int.le_refl _⟩, trivial⟩, n, rfl, (q.i 1).toNat, sects n, q.i 20, q.i 22, q.i 23, q.i 25, q.i 26, q.i 28, _, _, _, ?_, refIn_of (rnewM_ok n) ?_ r1 r2 r3 ?_ rfl rfl rfl hA hB ?_ hd⟩
    · show Value.pointer (slP (q.i 1) 0) = _
      rw [slP_pos p1]; rfl
    · show (List.replicate _ _).length = _
      rw [List.length_replicate]
    · show Hl.one (q.i 1).toNat (.cells #[.slice (slP (q.i 20) 0) (q.i 21).toNat (q.i 22).toNat, .slice (slP (q.i 23) 0) (q.i 24).toNat (q.i 25).toNat, .slice (slP (q.i 26) 0) (q.i 27).toNat (q.i 28).toNat, .int .i64 (-1), .bool false] 66 (0, 0)) = _
      rw [e21, e24, e27]
      rfl
    · show OwnsH (q.h 32) _ 1 _ _ ((List.replicate (sects n) false).map Value.bool)
      rw [List.map_replicate]
      exact hC
  refine ⟨fun hlt => ⟨fun hlt2 => ?_, fun hge2 => out (by omega)⟩, fun hge => out (by omega)⟩
  have hsl := sects_le n
  refine ⟨⟨by decide, by decide, by decide⟩, fun q2 g2 ⟨p50, h50⟩ q3 g3 _ q4 g4 ⟨h52, d52⟩ => ?_⟩
  have hA' : RowsO (q3.h 30) (sv0 (q.i 20) k (q.i 22)) (List.replicate k z64) := by
    rw [g3.h 30 (by omega), g2.h 30 (by omega)]; exact hA
  have G4 : Agree 50 q q4 := g2.trans ((g3.mono (by omega)).trans (g4.mono (by omega)))
  have p50' : 0 ≤ q3.i 50 := by rw [g3.i 50 (by omega)]; exact p50
  have e50 : q4.i 50 = q3.i 50 := g4.i 50 (by omega)
  rw [G4.i 20 (by omega), G4.i 21 (by omega), G4.i 22 (by omega), e21, h52]
  obtain ⟨us, hus, _, _⟩ := id hA'
  rw [List.length_replicate] at hus
  refine ⟨⟨⟨us, by rw [Int.toNat_natCast]; exact hus.unl⟩, by omega, by rw [Int.toNat_natCast]; unfold maxLen; omega, by rw [Int.toNat_natCast]; omega⟩, fun q5 g5 ⟨a1, a2, a3, a4, _, a6⟩ => ?_⟩
  rw [e50] at a3
  have hA5 := rowsO_app (q4 := q4) (q5 := q5) hA' (by rw [List.length_replicate]) d52 (rowO_zero p50') a1 a3 a4 a6
  refine ⟨⟨by decide, by decide, by decide⟩, fun q6 g6 ⟨p55, h55⟩ q7 g7 _ q8 g8 ⟨h57, d57⟩ => ?_⟩
  have G5 : Agree 50 q q5 := G4.trans (g5.mono (by omega))
  have G7 : Agree 55 q5 q7 := g6.trans (g7.mono (by omega))
  have G8 : Agree 55 q5 q8 := G7.trans (g8.mono (by omega))
  have Q8 : Agree 50 q q8 := G5.trans (G8.mono (by omega))
  have hB' : RowsO (q7.h 31) (sv0 (q.i 23) k (q.i 25)) (List.replicate k z64) := by
    rw [G7.h 31 (by omega), G5.h 31 (by omega)]; exact hB
  have p55' : 0 ≤ q7.i 55 := by rw [g7.i 55 (by omega)]; exact p55
  have e55 : q8.i 55 = q7.i 55 := g8.i 55 (by omega)
  rw [Q8.i 23 (by omega), Q8.i 24 (by omega), Q8.i 25 (by omega), e24, h57]
  obtain ⟨ws, hws, _, _⟩ := id hB'
  rw [List.length_replicate] at hws
  refine ⟨⟨⟨ws, by rw [Int.toNat_natCast]; exact hws.unl⟩, by omega, by rw [Int.toNat_natCast]; unfold maxLen; omega, by rw [Int.toNat_natCast]; omega⟩, fun q9 g9 ⟨b1, b2, b3, b4, _, b6⟩ q10 g10 _ => ?_⟩
  rw [e55] at b3
  have hB9 := rowsO_app (q4 := q8) (q5 := q9) hB' (by rw [List.length_replicate]) d57 (rowO_zero p55') b1 b3 b4 b6
  have Q10 : Agree 50 q q10 := Q8.trans ((g9.mono (by omega)).trans (g10.mono (by omega)))
  have hC' : OwnsH (q10.h 32) 4 1 (sv0 (q.i 26) k (q.i 28)) k (List.replicate k (.bool false)) := by
    rw [Q10.h 32 (by omega)]; exact hC
  rw [Q10.i 26 (by omega), Q10.i 27 (by omega), Q10.i 28 (by omega), e27]
  refine ⟨⟨⟨_, by rw [Int.toNat_natCast]; exact hC'⟩, by omega, by rw [Int.toNat_natCast]; unfold maxLen; omega, by rw [Int.toNat_natCast]; omega⟩, fun q11 g11 ⟨c1, c2, c3, _⟩ => ?_⟩
  have hC11 := c3 _ (by rw [Int.toNat_natCast]; exact hC')
  have Q11 : Agree 50 q q11 := Q10.trans (g11.mono (by omega))
  have P11 : Agree 55 q5 q11 := G8.trans ((g9.mono (by omega)).trans ((g10.mono (by omega)).trans (g11.mono (by omega))))
  have R11 : Agree 60 q9 q11 := g10.trans (g11.mono (by omega))
  have m40 : IntKind.i64.wrap (q11.i 40 + 1) = k + 1 := by
    rw [Q11.i 40 (by omega), e40, wrap_i64 (by omega) (by omega)]
  have kk : ((k : Nat) : Int) + 1 = ((k + 1 : Nat) : Int) := by omega
  refine ⟨⟨k + 1, ?_, by omega, ?_, ?_, ?_, ?_, ?_, ⟨c1, c2⟩, ?_, ?_, ?_⟩, ?_⟩
  · show IntKind.i64.wrap (q11.i 40 + 1) = _
    rw [m40]; omega
  · show q11.i 21 + 1 = _
    rw [Q11.i 21 (by omega), e21]; omega
  · show q11.i 24 + 1 = _
    rw [Q11.i 24 (by omega), e24]; omega
  · show q11.i 27 + 1 = _
    rw [Q11.i 27 (by omega), e27]; omega
  · show -1 ≤ q11.i 53 ∧ 0 ≤ q11.i 54
    rw [P11.i 53 (by omega), P11.i 54 (by omega)]; exact ⟨a1, a2⟩
  · show -1 ≤ q11.i 58 ∧ 0 ≤ q11.i 59
    rw [R11.i 58 (by omega), R11.i 59 (by omega)]; exact ⟨b1, b2⟩
  · show RowsO (q11.h 53) (sv0 (q11.i 53) (k + 1) (q11.i 54)) _
    rw [P11.h 53 (by omega), P11.i 53 (by omega), P11.i 54 (by omega), List.replicate_succ']
    exact hA5
  · show RowsO (q11.h 58) (sv0 (q11.i 58) (k + 1) (q11.i 59)) _
    rw [R11.h 58 (by omega), R11.i 58 (by omega), R11.i 59 (by omega), List.replicate_succ']
    exact hB9
  · show OwnsH (q11.h 61) _ 1 (sv0 (q11.i 61) (k + 1) (q11.i 62)) (k + 1) _
    rw [Int.toNat_natCast] at hC11
    rw [List.replicate_succ']
    unfold sv0
    rw [Int.toNat_natCast]
    exact hC11
  · show ((sects n : Int) - IntKind.i64.wrap (q11.i 40 + 1)).toNat < _
    have hlt3 : (k : Int) < sects n := by omega
    rw [m40]
    clear hs hsl hlt2
    omega
end Go.Proofs.Ytdohcabnaihaoaa
