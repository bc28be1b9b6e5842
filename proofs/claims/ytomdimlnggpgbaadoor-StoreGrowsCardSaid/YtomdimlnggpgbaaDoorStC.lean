/- Layer 9: the texts that bytes begin with: taken, as a contract. Condition: at most a million bytes. -/
import Derived.Test.YtomdimlnggpgbaaDoorStA
import Derived.Test.YtomdimlnggpgbaaDoorStB
set_option linter.unusedSimpArgs false
set_option linter.unusedVariables false
set_option linter.constructorNameAsVariable false
namespace Go.Proofs.YtomdimlnggpgbaaDoor
open Go Go.Sx Go.Pk

/-! ### What is taken -/
def tx (bs : List Int) : List Int × List Int × Bool := inText bs false 4096
def takenG : Nat → List Int → List (List Int)
  | 0, _ => []
  | n + 1, bs => if bs = [] then [] else if (tx bs).2.2 = true then [] else (tx bs).1 :: takenG n (tx bs).2.1
def takenL (bs : List Int) : List (List Int) := takenG bs.length bs
theorem tx_less {bs : List Int} (h0 : bs ≠ []) (h : (tx bs).2.2 = false) : (tx bs).2.1.length < bs.length := by
  have hl : 0 < bs.length := List.length_pos_iff.2 h0
  unfold tx inText at h ⊢
  split at h
  · cases h
  · rename_i hc
    rw [if_neg hc]
    have h2 : (numR bs).2 ≠ 0 := fun e => hc (Or.inr (Or.inl e))
    show (bs.drop _).length < _
    rw [List.length_drop]; omega
theorem takenG_nil : ∀ n, takenG n [] = []
  | 0 => rfl
  | _ + 1 => rfl
theorem takenG_same : ∀ (n m : Nat) (bs : List Int), bs.length ≤ n → bs.length ≤ m → takenG n bs = takenG m bs
  | 0, m, bs, h, _ => by
    have : bs = [] := List.length_eq_zero_iff.1 (by omega)
    rw [this, takenG_nil, takenG_nil]
  | n + 1, 0, bs, _, h => by
    have : bs = [] := List.length_eq_zero_iff.1 (by omega)
    rw [this, takenG_nil, takenG_nil]
  | n + 1, m + 1, bs, h1, h2 => by
    unfold takenG
    by_cases h0 : bs = []
    · rw [if_pos h0, if_pos h0]
    · rw [if_neg h0, if_neg h0]
      by_cases hb : (tx bs).2.2 = true
      · rw [if_pos hb, if_pos hb]
      · rw [if_neg hb, if_neg hb]
        have := tx_less h0 (Bool.eq_false_iff.2 hb)
        rw [takenG_same n m _ (by omega) (by omega)]
theorem takenG_more (n : Nat) (bs : List Int) (h : bs.length ≤ n) : takenG n bs = takenL bs := takenG_same n bs.length bs h (Nat.le_refl _)
theorem takenL_at {bs : List Int} (h : bs ≠ []) : takenL bs = if (tx bs).2.2 = true then [] else (tx bs).1 :: takenL (tx bs).2.1 := by
  rw [← takenG_more (bs.length + 1) bs (by omega)]
  show (if bs = [] then [] else if (tx bs).2.2 = true then [] else (tx bs).1 :: takenG bs.length (tx bs).2.1) = _
  rw [if_neg h]
  cases hb : (tx bs).2.2 with
  | true => rfl
  | false => rw [if_neg (by simp), if_neg (by simp), takenG_more _ _ (by have := tx_less h hb; omega)]
def takenS : Sx.Spec where
  fn := 31
  own := []
  rd := [0]
  res := [.one .sl]
  pre := fun xs Hs Rs => ∃ u bs R, xs = [u] ∧ Rs = [R] ∧ RdW R u bs ∧ bytes256 bs ∧ bs.length ≤ 1000000
  post := fun xs Hs Rs v Hs' F => ∃ u bs R, xs = [u] ∧ Rs = [R] ∧ RdW R u bs ∧ RowsR F v (takenL bs)
def tnΓ : List Sx.Spec := [readPS, leftS, textS, badS]
theorem tnΓ_ok : ∀ t ∈ tnΓ, t.OK Tryd.prog := fun t ht => by
  simp only [tnΓ, List.mem_cons, List.mem_nil_iff, or_false] at ht
  rcases ht with rfl | rfl | rfl | rfl
  · exact readPS_ok
  · exact leftS_ok
  · exact textS_ok
  · exact badS_ok
def takenNd : Nd := .and (.pre (.call 0 5 [.sv (.one (.sl (.var 0) (.var 1) (.var 2) (.var 3)))] [] [.ro 4 [.var 0] false])) (.ext (.call 0 5 [.sv (.one (.sl (.var 0) (.var 1) (.var 2) (.var 3)))] [] [.ro 4 [.var 0] false]) (.and (.inv 0 [⟨53, 0, .int .i64 (.lit (-1))⟩, ⟨54, 0, .int .i64 (.lit 0)⟩, ⟨55, 0, .int .i64 (.lit 0)⟩] [(51, some 5), (56, none)]) (.havoc 0 0 7 (.and (.pre (.call 1 60 [.sv (.one (.hptr (.var 5) (.var 6)))] [] [.hp 51 [] [.var 5] []])) (.ext (.call 1 60 [.sv (.one (.hptr (.var 5) (.var 6)))] [] [.hp 51 [] [.var 5] []]) (.and (.imp (.lt (.lit 0) (.var 60)) (.and (.pre (.call 2 61 [.sv (.one (.hptr (.var 5) (.var 6))), .sv (.one (.int .i64 (.lit 4096)))] [.hp 51 [] [.var 5] []] [])) (.ext (.call 2 61 [.sv (.one (.hptr (.var 5) (.var 6))), .sv (.one (.int .i64 (.lit 4096)))] [.hp 51 [] [.var 5] []] []) (.and (.pre (.call 3 65 [.sv (.one (.hptr (.var 5) (.var 6)))] [] [.hp 61 [51] [.var 5] []])) (.ext (.call 3 65 [.sv (.one (.hptr (.var 5) (.var 6)))] [] [.hp 61 [51] [.var 5] []]) (.and (.imp (.bvar 65) (.post [.ro 4 [.var 0] false, .hp 61 [51] [.var 5] [], .hp 56 [] [.var 53] [], .hp 62 [] [.var 61] []] (.sv (.one (.sl (.var 53) (.lit 0) (.var 54) (.var 55)))))) (.imp (.not (.bvar 65)) (.ext (.alloc 66) (.ext (.mrg 67 (.hp 56 [] [.var 53] []) (.hp 62 [] [.var 61] [])) (.and (.pre (.app 68 30 1 24 (.sl (.var 53) (.lit 0) (.var 54) (.var 55)) (.var 54) (.hp 67 [56, 62] [.var 53, .var 61, .var 61] []) (.cvs [.sl (.var 61) (.var 62) (.var 63) (.var 64)] 1))) (.ext (.app 68 30 1 24 (.sl (.var 53) (.lit 0) (.var 54) (.var 55)) (.var 54) (.hp 67 [56, 62] [.var 53, .var 61, .var 61] []) (.cvs [.sl (.var 61) (.var 62) (.var 63) (.var 64)] 1)) (.back 0 0 [⟨53, 0, .int .i64 (.var 68)⟩, ⟨54, 0, .int .i64 (.add (.var 54) (.lit 1))⟩, ⟨55, 0, .int .i64 (.var 69)⟩] [(51, some 61), (56, some 68)])))))))))))) (.imp (.not (.lt (.lit 0) (.var 60))) (.post [.ro 4 [.var 0] false, .hp 51 [] [.var 5] [], .hp 56 [] [.var 53] []] (.sv (.one (.sl (.var 53) (.lit 0) (.var 54) (.var 55))))))))))))
def takenW : Walk Tryd.prog tnΓ takenS.fn where
  Λ := fun p => if lp0 p then some ⟨0, [(3, .sv (.one (.sl (.var 53) (.lit 0) (.var 54) (.var 55))))], [(1, .hp 51 [] [.var 5] []), (2, .hp 56 [] [.var 53] [])], 60⟩ else none
  args := [.sv (.one (.sl (.var 0) (.var 1) (.var 2) (.var 3)))]
  mem := [.ro 4 [.var 0] false]
  nv := 5
  nd := takenNd
  ok := by kernel_rfl
theorem tng0 : tnΓ[0]? = some readPS := rfl
theorem tng1 : tnΓ[1]? = some leftS := rfl
theorem tng2 : tnΓ[2]? = some textS := rfl
theorem tng3 : tnΓ[3]? = some badS := rfl
theorem tnr0 : readPS.res = [.one .ptr] := rfl
theorem tnr1 : leftS.res = [.one (.int .i64)] := rfl
theorem tnr2 : textS.res = [.one .sl] := rfl
theorem tnr3 : badS.res = [.one .bool] := rfl
theorem rsl (n : Nat) : (cpRoots n [Cp.one .sl] ≠ []) = True := by simp [cpRoots, Cp.roots, Ck.root]
theorem rptr (n : Nat) : (cpRoots n [Cp.one .ptr] ≠ []) = True := by simp [cpRoots, Cp.roots, Ck.root]
theorem takenS_ok : takenS.OK Tryd.prog := by
  refine Spec.of_fn (Γ := tnΓ) tnΓ_ok ?_
  rintro xs Hs Rs hl1 hl2 ⟨u, bs, R, rfl, rfl, hRd, hby, hlen⟩
  have e0 : Hs = [] := List.length_eq_zero_iff.1 hl1
  subst e0
  obtain ⟨x, y, c, rfl, hy, hR⟩ := id hRd
  refine ⟨takenW, envI [x, y, bs.length, c] false [Hl.none, Hl.none, Hl.none, Hl.none, R], fun _ q => ∃ rest rows, InAt (q.h 51) (.pointer (slP (q.i 5) (q.i 6))) rest false ∧ -1 ≤ q.i 53 ∧ 0 ≤ q.i 54 ∧ 0 ≤ q.i 55 ∧ RowsR (q.h 56) (.slice (slP (q.i 53) 0) (q.i 54).toNat (q.i 55).toNat) rows ∧ rows ++ takenL rest = takenL bs ∧ rows.length + rest.length ≤ bs.length, fun _ q => (bs.length - q.i 54).toNat, ?_, ⟨?_, ?_, ?_, ?_⟩, (fun _ h => nomatch h), ?_⟩
  · show [Value.slice (slP x y) ((bs.length : Int)).toNat ((c : Int)).toNat] = _
    rw [Int.toNat_natCast, Int.toNat_natCast]
  · intro r hr ho; simp [takenW] at hr; subst hr; cases ho
  · intro r hr ho; simp [takenW] at hr; subst hr; exact ⟨R, by simp, Hl.le_refl _⟩
  · simp [takenW]
  · intro r hr; simp [takenW] at hr; subst hr; trivial
  · show Nd.holds _ _ _ takenNd
    generalize hρ : envI [x, y, bs.length, c] false [Hl.none, Hl.none, Hl.none, Hl.none, R] = ρ
    have v0 : ρ.i 0 = x := by rw [← hρ]; rfl
    have v1 : ρ.i 1 = y := by rw [← hρ]; rfl
    have v2 : ρ.i 2 = bs.length := by rw [← hρ]; rfl
    have v3 : ρ.i 3 = c := by rw [← hρ]; rfl
    have w4 : ρ.h 4 = R := by rw [← hρ]; rfl
    clear hρ
    have out : ∀ {q : Env} {rows : List (List Int)} {mem : Mem}, okIdx mem [] [2] = true → (uni q mem [2]) = q.h 56 → -1 ≤ q.i 53 → 0 ≤ q.i 54 → 0 ≤ q.i 55 → RowsR (q.h 56) (.slice (slP (q.i 53) 0) (q.i 54).toNat (q.i 55).toNat) rows → rows = takenL bs → postOf takenS [.slice (slP x y) bs.length c] [] [R] q mem (.sv (.one (.sl (.var 53) (.lit 0) (.var 54) (.var 55)))) := by
      intro q rows mem hok hu h1 h2 h3 hr he _
      subst he
      exact ⟨[], [2], rfl, hok, ⟨⟨fun k => [q.i 53, 0, q.i 54, q.i 55].getD k 0, fun _ => false, fun _ => .empty, fun _ => .tuple #[], fun _ => Hl.none⟩, rfl, ⟨h1, Int.le_refl _, h2, h3⟩, trivial⟩, _, bs, R, rfl, rfl, hRd, by rw [hu]; exact hr⟩
    unfold takenNd
    simp only [Nd.holds, X.pre, X.rel, X.n, Src.ok, Src.len, Src.vals, true_and, and_true, if_true, Nat.mul_one, Nat.add_zero, Nat.reduceAdd, List.length_cons, List.length_nil, bT_tt, bT_ff, bT_bvar, bT_not, bT_and, bT_or, bT_ite, bT_lt, bT_le, bT_eq, bT_beq, bT_seq, bT_hB, bT_his, bT_hby, bT_hism, bT_hks, iev_lit, iev_var, iev_add, iev_sub, iev_mul, iev_wrap, iev_ite, iev_hI, iev_hP, iev_hmlen, sev_ite, sev_slit, sev_sof, sev_svar, TV.ev, SV.ev, CV.ev, List.map_cons, List.map_nil, Res.hl, cpTV, Cp.sv, Ck.cv, cpSVs, Cp.len, Ck.len, newHs_zero, newHs_one, roots_ne, tng0, tng1, tng2, tng3, tnr0, tnr1, tnr2, tnr3, rsl, rptr]
    rw [v0, v1, v2, v3, w4, Int.toNat_natCast, Int.toNat_natCast]
    refine ⟨⟨_, bs, R, rfl, rfl, hRd, hby, hlen⟩, fun q1 g1 ⟨F1, ⟨u', bs', R', e1, e2, hR', hIn⟩, hF1, _⟩ => ?_⟩
    simp only [List.cons.injEq, and_true] at e1 e2
    subst e1 e2
    obtain rfl := hRd.uniq hR'
    rw [← hF1 trivial] at hIn
    refine ⟨⟨bs, [], hIn, Int.le_refl _, Int.le_refl _, Int.le_refl _, RowsR.nil _, rfl, by simp⟩, fun q2 g2 ⟨rest, rows, hI, x53, x54, x55, hO, hsum, hle⟩ => ?_⟩
    have hlr := (hO.at x53 x54).1
    refine ⟨⟨_, _, rest, false, rfl, rfl, hI⟩, fun q3 g3 ⟨F3, ⟨p3, R3, bs3, bad3, e1, e2, hI3, hv3⟩, _⟩ => ?_⟩
    simp only [List.cons.injEq, and_true] at e1 e2
    subst e1 e2
    obtain ⟨e3, _⟩ := hI.uniq hI3
    subst e3
    have hv3 : q3.i 60 = rest.length := by simpa using hv3
    rw [hv3]
    have hend : rest.length = 0 → rows = takenL bs := fun h => by
      have : rest = [] := List.length_eq_zero_iff.1 h
      subst this
      rw [← hsum]; exact (List.append_nil _).symm
    refine ⟨fun hpos => ?_, fun hneg => out rfl (hls_one _) (by rw [g3.i 53 (by omega)]; exact x53) (by rw [g3.i 54 (by omega)]; exact x54) (by rw [g3.i 55 (by omega)]; exact x55) (by rw [g3.i 53 (by omega), g3.i 54 (by omega), g3.i 55 (by omega), g3.h 56 (by omega)]; exact hO) (hend (by omega))⟩
    have hne : rest ≠ [] := by rintro rfl; simp at hpos
    rw [g3.i 5 (by omega), g3.i 6 (by omega), g3.h 51 (by omega)]
    refine ⟨⟨_, 4096, _, rest, false, rfl, rfl, hI, by omega⟩, fun q4 g4 ⟨F4, ⟨p4, m4, H4, bs4, bad4, H4', e1, e2, hI4, e3, hI4', hv4⟩, hF4, hn4⟩ => ?_⟩
    simp only [List.cons.injEq, Value.int.injEq, true_and, and_true] at e1 e2 e3
    obtain ⟨e1, em⟩ := e1
    subst e1 em e2
    obtain ⟨e4, e5⟩ := hI.uniq hI4
    subst e4 e5
    rw [← e3] at hI4'
    rw [← hF4 trivial] at hv4
    have hI4' : InAt (q4.h 61) (.pointer (slP (q2.i 5) (q2.i 6))) (tx rest).2.1 (tx rest).2.2 := hI4'
    have hv4 : OwB (q4.h 62) 5 (.slice (slP (q4.i 61) (q4.i 62)) (q4.i 63).toNat (q4.i 64).toNat) (tx rest).1 := hv4
    have hn4 : -1 ≤ q4.i 61 ∧ 0 ≤ q4.i 62 ∧ 0 ≤ q4.i 63 ∧ 0 ≤ q4.i 64 := hn4.1
    rw [g4.i 5 (by omega), g4.i 6 (by omega), g3.i 5 (by omega), g3.i 6 (by omega)]
    refine ⟨⟨_, _, _, _, rfl, rfl, hI4'⟩, fun q5 g5 ⟨F5, ⟨p5, R5, bs5, bad5, e1, e2, hI5, hv5⟩, _⟩ => ?_⟩
    simp only [List.cons.injEq, and_true] at e1 e2
    subst e1 e2
    obtain ⟨_, e5⟩ := hI4'.uniq hI5
    subst e5
    have hv5 : q5.b 65 = (tx rest).2.2 := by simpa [bev_bvar] using hv5
    have hat := takenL_at hne
    have G : Agree 60 q2 q5 := g3.trans ((g4.trans (g5.mono (by omega))).mono (by omega))
    have G4 : Agree 65 q4 q5 := g5
    rw [hv5]
    refine ⟨fun hb => out rfl (hls_one _) (by rw [G.i 53 (by omega)]; exact x53) (by rw [G.i 54 (by omega)]; exact x54) (by rw [G.i 55 (by omega)]; exact x55) (by rw [G.i 53 (by omega), G.i 54 (by omega), G.i 55 (by omega), G.h 56 (by omega)]; exact hO) (by rw [← hsum, hat, if_pos hb, List.append_nil]), fun hb q6 g6 _ q7 g7 ⟨e7, hd7⟩ => ?_⟩
    have hb : (tx rest).2.2 = false := Bool.eq_false_iff.2 hb
    have G7 : Agree 60 q2 q7 := G.trans ((g6.trans (g7.mono (by omega))).mono (by omega))
    have G47 : Agree 65 q4 q7 := G4.trans ((g6.trans (g7.mono (by omega))).mono (by omega))
    have G46 : Agree 65 q4 q6 := G4.trans (g6.mono (by omega))
    have G6 : Agree 60 q2 q6 := G.trans (g6.mono (by omega))
    have hu : RowR (q6.h 62) none (.slice (slP (q7.i 61) (q7.i 62)) (q7.i 63).toNat (q7.i 64).toNat) (tx rest).1 := by
      rw [G46.h 62 (by omega), G47.i 61 (by omega), G47.i 62 (by omega), G47.i 63 (by omega), G47.i 64 (by omega)]
      exact RowR.of hv4.rd.w hn4.1 hn4.2.1
    rw [e7, G6.h 56 (by omega), G7.i 53 (by omega), G7.i 54 (by omega), G7.i 55 (by omega)]
    rw [G6.h 56 (by omega)] at hd7
    have hpre : ∃ xs, OwnsH ((q2.h 56).un (q6.h 62)) 30 1 (.slice (slP (q2.i 53) 0) (q2.i 54).toNat (q2.i 55).toNat) (q2.i 54).toNat xs := by
      obtain ⟨us, ho, _⟩ := hO
      rw [show (q2.i 54).toNat = rows.length by omega] at ho ⊢
      exact ⟨us, ho.mono (Hl.un_left _ _)⟩
    refine ⟨⟨hpre, x54, by unfold maxLen; omega, by omega⟩, fun q8 g8 ⟨a1, a2, happ, hk, _, hn⟩ => ?_⟩
    have G8 : Agree 60 q2 q8 := G7.trans (g8.mono (by omega))
    have G48 : Agree 65 q4 q8 := G47.trans (g8.mono (by omega))
    have hrows := rowsR_app hO x53 x54 hd7 hu a1 happ hk hn
    have e54 : q8.i 54 + 1 = q2.i 54 + 1 := by rw [G8.i 54 (by omega)]
    have hless := tx_less hne hb
    refine ⟨⟨(tx rest).2.1, rows ++ [(tx rest).1], ?_, a1, ?_, a2, ?_, ?_, ?_⟩, ?_⟩
    · show InAt (q8.h 61) (.pointer (slP (q8.i 5) (q8.i 6))) _ _
      rw [G48.h 61 (by omega), G8.i 5 (by omega), G8.i 6 (by omega), ← hb]; exact hI4'
    · show 0 ≤ q8.i 54 + 1
      omega
    · show RowsR (q8.h 68) (.slice (slP (q8.i 68) 0) (q8.i 54 + 1).toNat (q8.i 69).toNat) _
      rw [e54]; exact hrows
    · rw [List.append_assoc, ← hsum, hat, if_neg (by rw [hb]; simp)]; rfl
    · rw [List.length_append, List.length_singleton]; omega
    · show ((bs.length : Int) - (q8.i 54 + 1)).toNat < _
      omega
end Go.Proofs.YtomdimlnggpgbaaDoor
