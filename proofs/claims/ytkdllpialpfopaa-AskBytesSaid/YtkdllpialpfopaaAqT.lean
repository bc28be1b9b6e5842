/- Layer 22: the laws AskBytes and AskParses, walked. Condition: bytes below 256. -/
import Derived.Test.YtkdllpialpfopaaAqS
set_option linter.unusedSimpArgs false
set_option linter.unusedVariables false
set_option linter.constructorNameAsVariable false
namespace Go.Proofs.Ytkdllpialpfopaa
open Go Go.Sx Go.Pk

theorem cpRoots_q1 : (cpRoots 0 [Cp.agg qk2, Cp.one (.int .i64)] ≠ []) = True := by
  have e : cpRoots 0 [Cp.agg qk2, Cp.one (.int .i64)] = [.var 55, .var 130, .var 141] := by kernel_rfl
  rw [e]; simp
theorem ckLen_qkk : ckLen qk2 = 148 := by kernel_rfl
theorem ckLen_qk2 : (Cp.agg qk2).len = 148 := by kernel_rfl
/-- Bytes that may be read, as they are compared. -/
theorem RdW.textV {R : Hl} {x y l c : Int} {bs : List Int} [Decidable (x = -1)] (h : RdW R (.slice (slP x y) l.toNat c.toNat) bs) (hy : 0 ≤ y) (hl : 0 ≤ l) :
    (x = -1 ∨ l = 0 ∨ 0 ≤ x ∧ 0 ≤ y ∧ cellBytes R x.toNat y.toNat l.toNat = true) ∧ (if x = -1 then (⟨#[]⟩ : ByteArray) else bytesOf (cellInts R x.toNat y.toNat l.toNat)) = bytesOf bs := by
  obtain ⟨x', y', c', he, hy', h⟩ := h
  simp only [Value.slice.injEq] at he
  obtain ⟨hp, he, _⟩ := he
  rcases h with rfl | ⟨h0, h⟩
  · have e : l = 0 := by
      have := he
      simp at this
      omega
    subst e
    refine ⟨Or.inr (Or.inl rfl), ?_⟩
    split <;> rfl
  · obtain ⟨rfl, rfl⟩ := slP_eq h0 hy' hy hp
    refine ⟨Or.inr (Or.inr ⟨h0, hy, cells_bytes h (by omega)⟩), ?_⟩
    rw [if_neg (by omega), he, cells_ints h]
theorem sevT {q : Env} {h a b c d : Nat} {R : Hl} {bs : List Int} (hR : RdW R (.slice (slP (q.i a) (q.i b)) (q.i c).toNat (q.i d).toNat) bs) (hy : 0 ≤ q.i b) (hl : 0 ≤ q.i c) (hh : q.h h = R) :
    sev q (((E.var a).eq (E.lit (-1))).ite (E.slit ⟨#[]⟩) (E.sof h (E.var a) (E.var b) (E.var c))) = bytesOf bs := by
  rw [sev_ite, sev_slit, sev_sof]
  have T := (RdW.textV hR hy hl).2
  rw [← hh] at T
  by_cases hx : q.i a = -1
  · have hb : bev q ((E.var a).eq (E.lit (-1))) = true := by rw [bev_eq]; exact decide_eq_true hx
    rw [if_pos hx] at T
    rw [if_pos hb]; exact T
  · have hb : ¬ bev q ((E.var a).eq (E.lit (-1))) = true := by rw [bev_eq]; exact fun h => hx (of_decide_eq_true h)
    rw [if_neg hx] at T
    rw [if_neg hb]; exact T
noncomputable def lw2Γ : List Sx.Spec := lwΓ ++ [awakeS, fewS]
theorem lw2Γ_ok : ∀ t ∈ lw2Γ, t.OK Try.prog := fun t ht => by
  rcases List.mem_append.1 ht with ht | ht
  · exact lwΓ_ok t ht
  · simp only [List.mem_cons, List.mem_nil_iff, or_false] at ht
    rcases ht with rfl | rfl
    · exact awakeS_ok
    · exact fewS_ok
theorem l2g0 : lw2Γ[0]? = some qBytesS := rfl
theorem l2g1 : lw2Γ[1]? = some (formQ 9) := rfl
theorem l2g2 : lw2Γ[2]? = some (formQ 8) := rfl
theorem l2g3 : lw2Γ[3]? = some rqBytS := rfl
theorem l2g4 : lw2Γ[4]? = some qParseS := rfl
theorem l2g5 : lw2Γ[5]? = some awakeS := rfl
theorem l2g6 : lw2Γ[6]? = some fewS := rfl
theorem l2r3 : rqBytS.res = [.one .sl] := rfl
theorem l2r4 : qParseS.res = [.agg qk2, .one (.int .i64)] := rfl
theorem l2r5 : awakeS.res = [.one .bool] := rfl
theorem l2r6 : fewS.res = [.one .bool] := rfl
theorem tuple_agg {a b : List Value} {c d : Int} (h : Value.tuple #[.agg a.toArray, .int .i64 c] = .tuple #[.agg b.toArray, .int .i64 d]) : a = b ∧ c = d := by
  obtain ⟨h1, h2⟩ := tuple2 h
  simp only [Value.int.injEq, true_and] at h2
  exact ⟨List.toArray_inj (Value.agg.inj h1), h2⟩
theorem rqbyt_res {row : List Value} {R1 R2 R3 : Hl} {r : Rq} {Hs K : List Hl} {F : Hl} {v : Value} (hx : IsRq R1 R2 R3 row r) (hp : rqBytS.post [.agg row.toArray] Hs [R1, R2, R3] v K F) : OwB F 5 v (qB r) := by
  obtain ⟨row', R1', R2', R3', r', e1, e2, x', hO⟩ := hp
  simp only [List.cons.injEq, Value.agg.injEq, and_true] at e1 e2
  obtain ⟨rfl, rfl, rfl⟩ := e2
  obtain rfl := List.toArray_inj e1
  obtain rfl := hx.uniq x'
  exact hO
/-! ### AskBytes -/
def askBytesS : Sx.Spec where
  fn := 3
  own := []
  rd := [1000055, 1000127, 1000135]
  res := [.one .bool]
  pre := fun xs Hs Rs => ∃ row R1 R2 R3, xs = [.agg row.toArray] ∧ Rs = [R1, R2, R3] ∧ rowOK row qkd ∧ (slLen row 55 ≤ 20 → slLen row 127 ≤ 2100 → slLen row 135 ≤ 20 → ∃ r, IsRq R1 R2 R3 row r)
  post := fun xs Hs Rs v Hs' F => v = .bool true
def askBytesNd : Nd := .ext (.alloc 153) (.and (.pre (.call 5 154 [] [] [])) (.ext (.call 5 154 [] [] []) (.and (.imp (.bvar 154) (.and (.pre (.call 6 155 [.sv (.agg (ckCVs 0 qk2))] [] [])) (.ext (.call 6 155 [.sv (.agg (ckCVs 0 qk2))] [] []) (.and (.imp (.not (.bvar 155)) (.and (.pre (.call 5 156 [] [] [])) (.ext (.call 5 156 [] [] []) (.post [.ro 150 [.var 55] false, .ro 151 [.var 130] false, .ro 152 [.var 141] false, .dead] (.sv (.one (.bool (.bvar 156)))))))) (.imp (.bvar 155) (.and (.pre (.call 0 156 [.sv (.agg (ckCVs 0 qk2))] [] [.ro 150 [.var 55] false, .ro 151 [.var 130] false, .ro 152 [.var 141] false])) (.ext (.call 0 156 [.sv (.agg (ckCVs 0 qk2))] [] [.ro 150 [.var 55] false, .ro 151 [.var 130] false, .ro 152 [.var 141] false]) (.and (.pre (.call 2 161 [.sv (.agg (ckCVs 0 qk2))] [] [.ro 150 [.var 55] false, .ro 151 [.var 130] false, .ro 152 [.var 141] false])) (.ext (.call 2 161 [.sv (.agg (ckCVs 0 qk2))] [] [.ro 150 [.var 55] false, .ro 151 [.var 130] false, .ro 152 [.var 141] false]) (.and (.pre (.call 1 162 [.sv (.agg (ckCVs 0 qk2))] [] [.ro 150 [.var 55] false, .ro 151 [.var 130] false, .ro 152 [.var 141] false])) (.ext (.call 1 162 [.sv (.agg (ckCVs 0 qk2))] [] [.ro 150 [.var 55] false, .ro 151 [.var 130] false, .ro 152 [.var 141] false]) (.and (.imp (.not (.beq (.bvar 162) (.bvar 161))) (.post [.ro 150 [.var 55] false, .ro 151 [.var 130] false, .ro 152 [.var 141] false, .dead, .hp 156 [] [.var 156] []] (.sv (.one (.bool .ff))))) (.imp (.beq (.bvar 162) (.bvar 161)) (.and (.imp (.not (.bvar 161)) (.and (.imp (.eq (.var 160) (.lit 1)) (.and (.e (.le (.lit 0) (.var 158))) (.post [.ro 150 [.var 55] false, .ro 151 [.var 130] false, .ro 152 [.var 141] false, .dead, .hp 156 [] [.var 156] []] (.sv (.one (.bool (.eq (.var 158) (.lit 0)))))))) (.imp (.not (.eq (.var 160) (.lit 1))) (.post [.ro 150 [.var 55] false, .ro 151 [.var 130] false, .ro 152 [.var 141] false, .dead, .hp 156 [] [.var 156] []] (.sv (.one (.bool .ff))))))) (.imp (.bvar 161) (.and (.pre (.call 4 163 [.sv (.one (.sl (.var 156) (.var 157) (.var 158) (.var 159)))] [] [.hp 156 [] [.var 156] []])) (.ext (.call 4 163 [.sv (.one (.sl (.var 156) (.var 157) (.var 158) (.var 159)))] [] [.hp 156 [] [.var 156] []]) (.ext (.alloc 312) (.and (.imp (.eq (.var 160) (.lit 0)) (.and (.imp (.eq (.var 311) (.lit 0)) (.and (.e (.or (.eq (.var 156) (.lit (-1))) (.or (.eq (.var 158) (.lit 0)) (.and (.le (.lit 0) (.var 156)) (.and (.le (.lit 0) (.var 157)) (.hby 156 (.var 156) (.var 157) (.var 158))))))) (.and (.pre (.call 3 313 [.sv (.agg (ckCVs 0 qk2))] [] [.ro 150 [.var 55] false, .ro 151 [.var 130] false, .ro 152 [.var 141] false])) (.ext (.call 3 313 [.sv (.agg (ckCVs 0 qk2))] [] [.ro 150 [.var 55] false, .ro 151 [.var 130] false, .ro 152 [.var 141] false]) (.and (.e (.or (.eq (.var 313) (.lit (-1))) (.or (.eq (.var 315) (.lit 0)) (.and (.le (.lit 0) (.var 313)) (.and (.le (.lit 0) (.var 314)) (.hby 313 (.var 313) (.var 314) (.var 315))))))) (.and (.imp (.seq (.ite (.eq (.var 156) (.lit (-1))) (.slit ⟨#[]⟩) (.sof 156 (.var 156) (.var 157) (.var 158))) (.ite (.eq (.var 313) (.lit (-1))) (.slit ⟨#[]⟩) (.sof 313 (.var 313) (.var 314) (.var 315)))) (.and (.pre (.call 2 317 [.sv (.agg (ckCVs 163 qk2))] [] [.hp 163 [] [.var 218, .var 293, .var 304] [], .hp 163 [] [.var 218, .var 293, .var 304] [], .hp 163 [] [.var 218, .var 293, .var 304] []])) (.ext (.call 2 317 [.sv (.agg (ckCVs 163 qk2))] [] [.hp 163 [] [.var 218, .var 293, .var 304] [], .hp 163 [] [.var 218, .var 293, .var 304] [], .hp 163 [] [.var 218, .var 293, .var 304] []]) (.and (.imp (.bvar 317) (.and (.pre (.call 3 318 [.sv (.agg (ckCVs 163 qk2))] [] [.hp 163 [] [.var 218, .var 293, .var 304] [], .hp 163 [] [.var 218, .var 293, .var 304] [], .hp 163 [] [.var 218, .var 293, .var 304] []])) (.ext (.call 3 318 [.sv (.agg (ckCVs 163 qk2))] [] [.hp 163 [] [.var 218, .var 293, .var 304] [], .hp 163 [] [.var 218, .var 293, .var 304] [], .hp 163 [] [.var 218, .var 293, .var 304] []]) (.and (.e (.or (.eq (.var 318) (.lit (-1))) (.or (.eq (.var 320) (.lit 0)) (.and (.le (.lit 0) (.var 318)) (.and (.le (.lit 0) (.var 319)) (.hby 318 (.var 318) (.var 319) (.var 320))))))) (.post [.ro 150 [.var 55] false, .ro 151 [.var 130] false, .ro 152 [.var 141] false, .dead, .hp 156 [] [.var 156] [], .hp 163 [] [.var 218, .var 293, .var 304] [], .dead, .hp 313 [] [.var 313] [], .hp 318 [] [.var 318] []] (.sv (.one (.bool (.seq (.ite (.eq (.var 318) (.lit (-1))) (.slit ⟨#[]⟩) (.sof 318 (.var 318) (.var 319) (.var 320))) (.ite (.eq (.var 156) (.lit (-1))) (.slit ⟨#[]⟩) (.sof 156 (.var 156) (.var 157) (.var 158)))))))))))) (.imp (.not (.bvar 317)) (.post [.ro 150 [.var 55] false, .ro 151 [.var 130] false, .ro 152 [.var 141] false, .dead, .hp 156 [] [.var 156] [], .hp 163 [] [.var 218, .var 293, .var 304] [], .dead, .hp 313 [] [.var 313] []] (.sv (.one (.bool .ff))))))))) (.imp (.not (.seq (.ite (.eq (.var 156) (.lit (-1))) (.slit ⟨#[]⟩) (.sof 156 (.var 156) (.var 157) (.var 158))) (.ite (.eq (.var 313) (.lit (-1))) (.slit ⟨#[]⟩) (.sof 313 (.var 313) (.var 314) (.var 315))))) (.post [.ro 150 [.var 55] false, .ro 151 [.var 130] false, .ro 152 [.var 141] false, .dead, .hp 156 [] [.var 156] [], .hp 163 [] [.var 218, .var 293, .var 304] [], .dead, .hp 313 [] [.var 313] []] (.sv (.one (.bool .ff))))))))))) (.imp (.not (.eq (.var 311) (.lit 0))) (.post [.ro 150 [.var 55] false, .ro 151 [.var 130] false, .ro 152 [.var 141] false, .dead, .hp 156 [] [.var 156] [], .hp 163 [] [.var 218, .var 293, .var 304] [], .dead] (.sv (.one (.bool .ff))))))) (.imp (.not (.eq (.var 160) (.lit 0))) (.post [.ro 150 [.var 55] false, .ro 151 [.var 130] false, .ro 152 [.var 141] false, .dead, .hp 156 [] [.var 156] [], .hp 163 [] [.var 218, .var 293, .var 304] [], .dead] (.sv (.one (.bool .ff)))))))))))))))))))))))) (.imp (.not (.bvar 154)) (.and (.pre (.call 5 155 [] [] [])) (.ext (.call 5 155 [] [] []) (.post [.ro 150 [.var 55] false, .ro 151 [.var 130] false, .ro 152 [.var 141] false, .dead] (.sv (.one (.bool (.bvar 155)))))))))))
noncomputable def askBytesW : Walk Try.prog lw2Γ 3 where
  Λ := noLoops
  args := (cpSVs 0 [.agg qk2]).map .sv
  mem := rqMem
  nv := 153
  nd := askBytesNd
  ok := by kernel_rfl
theorem askBytesS_ok : askBytesS.OK Try.prog := by
  refine Spec.of_fn (Γ := lw2Γ) lw2Γ_ok ?_
  rintro xs Hs Rs hl1 hl2 ⟨row, R1, R2, R3, rfl, rfl, hx, hr⟩
  have e0 : Hs = [] := List.length_eq_zero_iff.1 hl1
  subst e0
  obtain ⟨ρ, rfl, hn, hh⟩ := row_env [(150, R1), (151, R2), (152, R3)] hx
  have w150 : ρ.h 150 = R1 := hh 150
  have w151 : ρ.h 151 = R2 := hh 151
  have w152 : ρ.h 152 = R3 := hh 152
  refine ⟨askBytesW, ρ, fun _ _ => True, fun _ _ => 0, by kernel_rfl, ⟨?_, ?_, ?_, ?_⟩, (fun _ h => nomatch h), ?_⟩
  · intro r hr ho; simp [askBytesW, rqMem] at hr; rcases hr with rfl | rfl | rfl <;> cases ho
  · intro r hr ho; simp [askBytesW, rqMem] at hr
    rcases hr with rfl | rfl | rfl
    · exact ⟨R1, by simp, by show (ρ.h 150).le R1; rw [w150]; exact Hl.le_refl _⟩
    · exact ⟨R2, by simp, by show (ρ.h 151).le R2; rw [w151]; exact Hl.le_refl _⟩
    · exact ⟨R3, by simp, by show (ρ.h 152).le R3; rw [w152]; exact Hl.le_refl _⟩
  · simp [askBytesW, rqMem, Res.own]
  · intro r hr; simp [askBytesW, rqMem] at hr; rcases hr with rfl | rfl | rfl <;> trivial
  · show Nd.holds _ _ _ askBytesNd
    have out : ∀ {q : Env} {e : E} {mem : Mem}, bev q e = true → postOf askBytesS [.agg ((ckCVs 0 qk2).map (CV.ev ρ)).toArray] [] [R1, R2, R3] q mem (.sv (.one (.bool e))) := by
      intro q e mem he _
      exact ⟨[], [], rfl, rfl, ⟨⟨fun _ => 0, fun _ => bev q e, fun _ => .empty, fun _ => .tuple #[], fun _ => Hl.none⟩, rfl, trivial, trivial⟩, by show Value.bool (bev q e) = _; rw [he]⟩
    have er : ∀ {n : Nat} {q : Env}, 153 ≤ n → Agree n ρ q → (ckCVs 0 qk2).map (CV.ev q) = qrow ρ := fun {n q} hn g => ag_row (a := 0) g (Nat.le_trans (Nat.le_of_ble_eq_true (by kernel_rfl)) hn)
    unfold askBytesNd
    simp only [Nd.holds, X.pre, X.rel, X.n, Src.ok, Src.len, Src.vals, true_and, and_true, if_true, Nat.mul_one, Nat.add_zero, Nat.reduceAdd, List.length_cons, List.length_nil, bT_tt, bT_ff, bT_bvar, bT_not, bT_and, bT_or, bT_ite, bT_lt, bT_le, bT_eq, bT_beq, bT_seq, bT_hB, bT_his, bT_hby, bT_hism, bT_hks, iev_lit, iev_var, iev_add, iev_sub, iev_mul, iev_wrap, iev_ite, iev_hI, iev_hP, iev_hmlen, sev_ite, sev_slit, sev_sof, sev_svar, TV.ev, SV.ev, CV.ev, List.map_cons, List.map_nil, Res.hl, cpTV, Cp.sv, Ck.cv, cpSVs, Cp.len, Ck.len, newHs_zero, newHs_one, roots_ne, l2g0, l2g1, l2g2, l2g3, l2g4, l2g5, l2g6, lwr0, qpr10, l2r3, l2r4, l2r5, l2r6, rcQ, rcc0, cpRoots_q1, ckLen_qk2]
    intro q0 g0 _
    refine ⟨rfl, fun q1 g1 ⟨_, e1, _⟩ => ?_⟩
    have e1 : Value.bool (q1.b 154) = .bool true := e1
    simp only [Value.bool.injEq] at e1
    have G1 : Agree 153 ρ q1 := g0.trans (g1.mono (by omega))
    rw [er (Nat.le_refl _) G1]
    refine ⟨fun _ => ⟨⟨_, rfl, hx⟩, fun q2 g2 ⟨_, ⟨row', e2, hv2⟩, _⟩ => ?_⟩, fun h => absurd e1 h⟩
    simp only [List.cons.injEq, Value.agg.injEq, and_true] at e2
    obtain rfl := List.toArray_inj e2
    have hv2 := bvT (q := q2) (n := 155) (P := slLen (qrow ρ) 55 ≤ 20 ∧ slLen (qrow ρ) 127 ≤ 2100 ∧ slLen (qrow ρ) 135 ≤ 20) (by rw [hv2]; simp)
    have G2 : Agree 153 ρ q2 := G1.trans (g2.mono (by omega))
    refine ⟨fun _ => ⟨rfl, fun q3 g3 ⟨_, e3, _⟩ => out (by
      have e3 : Value.bool (q3.b 156) = .bool true := e3
      simpa [bev_bvar] using e3)⟩, fun h2 => ?_⟩
    rw [hv2] at h2
    obtain ⟨r, hr⟩ := hr h2.1 h2.2.1 h2.2.2
    have hr : IsRq R1 R2 R3 (qrow ρ) r := hr
    rw [er (Nat.le_refl _) G2, G2.h 150 (by omega), G2.h 151 (by omega), G2.h 152 (by omega), w150, w151, w152]
    refine ⟨⟨_, _, _, _, r, rfl, rfl, hr⟩, fun q3 g3 ⟨F3, hp3, hF3, hn3⟩ => ?_⟩
    have G3 : Agree 153 ρ q3 := G2.trans (g3.mono (by omega))
    obtain ⟨e160, hO⟩ := qbytes_res hr hp3
    rw [← hF3 trivial] at hO
    have hn3 : -1 ≤ q3.i 156 ∧ 0 ≤ q3.i 157 ∧ 0 ≤ q3.i 158 ∧ 0 ≤ q3.i 159 := hn3.1
    rw [er (Nat.le_refl _) G3, G3.h 150 (by omega), G3.h 151 (by omega), G3.h 152 (by omega), w150, w151, w152]
    refine iFormQ hr fun q4 g4 f4 => ?_
    have G4 : Agree 153 ρ q4 := G3.trans (g4.mono (by omega))
    rw [er (Nat.le_refl _) G4, G4.h 150 (by omega), G4.h 151 (by omega), G4.h 152 (by omega), w150, w151, w152]
    refine iFormQ hr fun q5 g5 f5 => ?_
    have G5 : Agree 153 ρ q5 := G4.trans (g5.mono (by omega))
    have g35 : Agree 161 q3 q5 := g4.trans (g5.mono (by omega))
    rw [g5.b 161 (by omega), f4, f5]
    refine ⟨fun h => absurd rfl h, fun _ => ⟨fun hf => ?_, fun hf => ?_⟩⟩
    · have eQ : qRes r = ([], 1) := by unfold qRes; rw [if_neg hf]
      rw [eQ] at e160 hO
      have l0 := (hO.rd.at hn3.1 hn3.2.1 hn3.2.2.1).1
      rw [g35.i 160 (by omega), g35.i 158 (by omega)]
      refine ⟨fun _ => ⟨hn3.2.2.1, out ?_⟩, fun h => absurd e160 h⟩
      rw [bev_eq, iev_var, iev_lit, g35.i 158 (by omega), l0]; rfl
    · have eQ : qRes r = (qB r, 0) := by unfold qRes; rw [if_pos hf]
      rw [eQ] at e160 hO
      have hRd : RdW (q3.h 156) (.slice (slP (q3.i 156) (q3.i 157)) (q3.i 158).toNat (q3.i 159).toNat) (qB r) := hO.rd.w
      rw [g35.i 156 (by omega), g35.i 157 (by omega), g35.i 158 (by omega), g35.i 159 (by omega), g35.h 156 (by omega)]
      refine ⟨⟨_, qB r, _, rfl, rfl, hRd, b_rq hr, Nat.le_trans (rq_blen hr hf) (by omega)⟩, fun q6 g6 ⟨F6, ⟨u', bs', R', e1, e2, hR', hp6⟩, hF6, hn6⟩ q7 g7 _ => ?_⟩
      simp only [List.cons.injEq, and_true] at e1 e2
      subst e1 e2
      obtain rfl := hRd.uniq hR'
      have G7 : Agree 153 ρ q7 := G5.trans (g6.trans (g7.mono (by omega)) |>.mono (by omega))
      have g37 : Agree 161 q3 q7 := g35.trans (g6.trans (g7.mono (by omega)) |>.mono (by omega))
      obtain ⟨row6, r6, hv6, hx6, hf6, hb6⟩ := hp6.resolve_right fun h => absurd rfl (h.2 _ _ _ _ _ hr hf)
      obtain ⟨er6, e311⟩ := tuple_agg hv6
      rw [ckLen_qkk] at e311
      rw [← er6, ← hF6 trivial] at hx6
      rw [g37.i 160 (by omega), g37.i 156 (by omega), g37.i 157 (by omega), g37.i 158 (by omega), g37.h 156 (by omega), g7.i 311 (by omega)]
      refine ⟨fun _ => ⟨fun _ => ⟨(RdW.textV hRd hn3.2.1 hn3.2.2.1).1, ?_⟩, fun h => absurd e311 h⟩, fun h => absurd e160 h⟩
      rw [er (Nat.le_refl _) G7, G7.h 150 (by omega), G7.h 151 (by omega), G7.h 152 (by omega), w150, w151, w152]
      refine ⟨⟨_, _, _, _, r, rfl, rfl, hr, hf⟩, fun q8 g8 ⟨F8, hp8, hF8, hn8⟩ => ?_⟩
      have hO8 := (rqbyt_res hr hp8).rd.w
      rw [← hF8 trivial] at hO8
      have hn8 : -1 ≤ q8.i 313 ∧ 0 ≤ q8.i 314 ∧ 0 ≤ q8.i 315 ∧ 0 ≤ q8.i 316 := hn8.1
      have g38 : Agree 161 q3 q8 := g37.trans (g8.mono (by omega))
      have g68 : Agree 312 q6 q8 := g7.trans (g8.mono (by omega))
      have e6 : (ckCVs 163 qk2).map (CV.ev q8) = (ckCVs 163 qk2).map (CV.ev q6) := ag_row (a := 163) g68 (by rw [ckLen_qkk]; omega)
      refine ⟨(RdW.textV hO8 hn8.2.1 hn8.2.2.1).1, ?_⟩
      rw [g38.i 156 (by omega), g38.i 157 (by omega), g38.i 158 (by omega), g38.h 156 (by omega), (RdW.textV hRd hn3.2.1 hn3.2.2.1).2, (RdW.textV hO8 hn8.2.1 hn8.2.2.1).2, e6, g68.h 163 (by omega)]
      refine ⟨fun _ => ?_, fun h => absurd rfl h⟩
      refine iFormQ hx6 fun q9 g9 f9 => ?_
      have g69 : Agree 312 q6 q9 := g68.trans (g9.mono (by omega))
      have g39 : Agree 161 q3 q9 := g38.trans (g9.mono (by omega))
      have e9 : (ckCVs 163 qk2).map (CV.ev q9) = (ckCVs 163 qk2).map (CV.ev q6) := ag_row (a := 163) g69 (by rw [ckLen_qkk]; omega)
      rw [f9, e9, g69.h 163 (by omega)]
      refine ⟨fun _ => ⟨⟨_, _, _, _, r6, rfl, rfl, hx6, hf6⟩, fun q10 g10 ⟨F10, hp10, hF10, hn10⟩ => ?_⟩, fun h => absurd hf6 h⟩
      have hO10 := (rqbyt_res hx6 hp10).rd.w
      rw [← hF10 trivial] at hO10
      have hn10 : -1 ≤ q10.i 318 ∧ 0 ≤ q10.i 319 ∧ 0 ≤ q10.i 320 ∧ 0 ≤ q10.i 321 := hn10.1
      have g310 : Agree 161 q3 q10 := g39.trans (g10.mono (by omega))
      refine ⟨(RdW.textV hO10 hn10.2.1 hn10.2.2.1).1, out ?_⟩
      rw [bT_seq, sevT hO10 hn10.2.1 hn10.2.2.1 rfl, sevT (R := q3.h 156) (bs := qB r) (d := 159) (by rw [g310.i 156 (by omega), g310.i 157 (by omega), g310.i 158 (by omega), g310.i 159 (by omega)]; exact hRd) (by rw [g310.i 157 (by omega)]; exact hn3.2.1) (by rw [g310.i 158 (by omega)]; exact hn3.2.2.1) (g310.h 156 (by omega)), hb6]
/-! ### AskParses -/
def askParsesS : Sx.Spec where
  fn := 4
  own := []
  rd := [0]
  res := [.one .bool]
  pre := fun xs Hs Rs => ∃ u bs R, xs = [u] ∧ Rs = [R] ∧ RdW R u bs ∧ bytes256 bs
  post := fun xs Hs Rs v Hs' F => v = .bool true
def askParsesNd : Nd := .and (.pre (.call 5 5 [] [] [])) (.ext (.call 5 5 [] [] []) (.and (.imp (.bvar 5) (.and (.e (.le (.lit 0) (.var 2))) (.and (.imp (.lt (.lit 3000) (.var 2)) (.and (.pre (.call 5 6 [] [] [])) (.ext (.call 5 6 [] [] []) (.post [.ro 4 [.var 0] false] (.sv (.one (.bool (.bvar 6)))))))) (.imp (.not (.lt (.lit 3000) (.var 2))) (.and (.pre (.call 4 6 [.sv (.one (.sl (.var 0) (.var 1) (.var 2) (.var 3)))] [] [.ro 4 [.var 0] false])) (.ext (.call 4 6 [.sv (.one (.sl (.var 0) (.var 1) (.var 2) (.var 3)))] [] [.ro 4 [.var 0] false]) (.ext (.alloc 155) (.and (.imp (.not (.eq (.var 154) (.lit 0))) (.and (.imp (.eq (.var 154) (.lit 2)) (.post [.ro 4 [.var 0] false, .hp 6 [] [.var 61, .var 136, .var 147] [], .dead] (.sv (.one (.bool (.eq (.var 7) (.lit 0))))))) (.imp (.not (.eq (.var 154) (.lit 2))) (.post [.ro 4 [.var 0] false, .hp 6 [] [.var 61, .var 136, .var 147] [], .dead] (.sv (.one (.bool .ff))))))) (.imp (.eq (.var 154) (.lit 0)) (.and (.pre (.call 2 156 [.sv (.agg (ckCVs 6 qk2))] [] [.hp 6 [] [.var 61, .var 136, .var 147] [], .hp 6 [] [.var 61, .var 136, .var 147] [], .hp 6 [] [.var 61, .var 136, .var 147] []])) (.ext (.call 2 156 [.sv (.agg (ckCVs 6 qk2))] [] [.hp 6 [] [.var 61, .var 136, .var 147] [], .hp 6 [] [.var 61, .var 136, .var 147] [], .hp 6 [] [.var 61, .var 136, .var 147] []]) (.and (.imp (.bvar 156) (.and (.e (.or (.eq (.var 0) (.lit (-1))) (.or (.eq (.var 2) (.lit 0)) (.and (.le (.lit 0) (.var 0)) (.and (.le (.lit 0) (.var 1)) (.hby 4 (.var 0) (.var 1) (.var 2))))))) (.and (.pre (.call 3 157 [.sv (.agg (ckCVs 6 qk2))] [] [.hp 6 [] [.var 61, .var 136, .var 147] [], .hp 6 [] [.var 61, .var 136, .var 147] [], .hp 6 [] [.var 61, .var 136, .var 147] []])) (.ext (.call 3 157 [.sv (.agg (ckCVs 6 qk2))] [] [.hp 6 [] [.var 61, .var 136, .var 147] [], .hp 6 [] [.var 61, .var 136, .var 147] [], .hp 6 [] [.var 61, .var 136, .var 147] []]) (.and (.e (.or (.eq (.var 157) (.lit (-1))) (.or (.eq (.var 159) (.lit 0)) (.and (.le (.lit 0) (.var 157)) (.and (.le (.lit 0) (.var 158)) (.hby 157 (.var 157) (.var 158) (.var 159))))))) (.post [.ro 4 [.var 0] false, .hp 6 [] [.var 61, .var 136, .var 147] [], .dead, .hp 157 [] [.var 157] []] (.sv (.one (.bool (.seq (.ite (.eq (.var 157) (.lit (-1))) (.slit ⟨#[]⟩) (.sof 157 (.var 157) (.var 158) (.var 159))) (.ite (.eq (.var 0) (.lit (-1))) (.slit ⟨#[]⟩) (.sof 4 (.var 0) (.var 1) (.var 2))))))))))))) (.imp (.not (.bvar 156)) (.post [.ro 4 [.var 0] false, .hp 6 [] [.var 61, .var 136, .var 147] [], .dead] (.sv (.one (.bool .ff))))))))))))))))) (.imp (.not (.bvar 5)) (.and (.pre (.call 5 6 [] [] [])) (.ext (.call 5 6 [] [] []) (.post [.ro 4 [.var 0] false] (.sv (.one (.bool (.bvar 6))))))))))
noncomputable def askParsesW : Walk Try.prog lw2Γ 4 where
  Λ := noLoops
  args := [.sv (.one (.sl (.var 0) (.var 1) (.var 2) (.var 3)))]
  mem := [.ro 4 [.var 0] false]
  nv := 5
  nd := askParsesNd
  ok := by kernel_rfl
theorem askParsesS_ok : askParsesS.OK Try.prog := by
  refine Spec.of_fn (Γ := lw2Γ) lw2Γ_ok ?_
  rintro xs Hs Rs hl1 hl2 ⟨u, b, R, rfl, rfl, hRd, hby⟩
  have e0 : Hs = [] := List.length_eq_zero_iff.1 hl1
  subst e0
  obtain ⟨x, y, c, rfl, hy, hR⟩ := id hRd
  refine ⟨askParsesW, envI [x, y, b.length, c] false [Hl.none, Hl.none, Hl.none, Hl.none, R], fun _ _ => True, fun _ _ => 0, ?_, ⟨?_, ?_, ?_, ?_⟩, (fun _ h => nomatch h), ?_⟩
  · show [Value.slice (slP x y) ((b.length : Int)).toNat ((c : Int)).toNat] = _
    rw [Int.toNat_natCast, Int.toNat_natCast]
  · intro r hr ho; simp [askParsesW] at hr; subst hr; cases ho
  · intro r hr ho; simp [askParsesW] at hr; subst hr; exact ⟨R, by simp, Hl.le_refl _⟩
  · simp [askParsesW]
  · intro r hr; simp [askParsesW] at hr; subst hr; trivial
  · show Nd.holds _ _ _ askParsesNd
    generalize hρ : envI [x, y, b.length, c] false [Hl.none, Hl.none, Hl.none, Hl.none, R] = ρ
    have v0 : ρ.i 0 = x := by rw [← hρ]; rfl
    have v1 : ρ.i 1 = y := by rw [← hρ]; rfl
    have v2 : ρ.i 2 = b.length := by rw [← hρ]; rfl
    have v3 : ρ.i 3 = c := by rw [← hρ]; rfl
    have w4 : ρ.h 4 = R := by rw [← hρ]; rfl
    clear hρ
    have out : ∀ {q : Env} {e : E} {mem : Mem}, bev q e = true → postOf askParsesS [.slice (slP x y) b.length c] [] [R] q mem (.sv (.one (.bool e))) := by
      intro q e mem he _
      exact ⟨[], [], rfl, rfl, ⟨⟨fun _ => 0, fun _ => bev q e, fun _ => .empty, fun _ => .tuple #[], fun _ => Hl.none⟩, rfl, trivial, trivial⟩, by show Value.bool (bev q e) = _; rw [he]⟩
    unfold askParsesNd
    simp only [Nd.holds, X.pre, X.rel, X.n, Src.ok, Src.len, Src.vals, true_and, and_true, if_true, Nat.mul_one, Nat.add_zero, Nat.reduceAdd, List.length_cons, List.length_nil, bT_tt, bT_ff, bT_bvar, bT_not, bT_and, bT_or, bT_ite, bT_lt, bT_le, bT_eq, bT_beq, bT_seq, bT_hB, bT_his, bT_hby, bT_hism, bT_hks, iev_lit, iev_var, iev_add, iev_sub, iev_mul, iev_wrap, iev_ite, iev_hI, iev_hP, iev_hmlen, sev_ite, sev_slit, sev_sof, sev_svar, TV.ev, SV.ev, CV.ev, List.map_cons, List.map_nil, Res.hl, cpTV, Cp.sv, Ck.cv, cpSVs, Cp.len, Ck.len, newHs_zero, newHs_one, roots_ne, l2g2, l2g3, l2g4, l2g5, qpr10, l2r3, l2r4, l2r5, rcQ, rcc0, cpRoots_q1, ckLen_qk2]
    refine ⟨rfl, fun q1 g1 ⟨_, e1, _⟩ => ?_⟩
    have e1 : Value.bool (q1.b 5) = .bool true := e1
    simp only [Value.bool.injEq] at e1
    rw [g1.i 0 (by omega), g1.i 1 (by omega), g1.i 2 (by omega), g1.i 3 (by omega), g1.h 4 (by omega), v0, v1, v2, v3, w4, Int.toNat_natCast, Int.toNat_natCast]
    refine ⟨fun _ => ⟨by omega, fun _ => ⟨rfl, fun q2 g2 ⟨_, e2, _⟩ => out ?_⟩, fun h3 => ?_⟩, fun h => absurd e1 h⟩
    · have e2 : Value.bool (q2.b 6) = .bool true := e2
      simpa [bev_bvar] using e2
    refine ⟨⟨_, b, R, rfl, rfl, hRd, hby, by omega⟩, fun q2 g2 ⟨F2, ⟨u', bs', R', e1, e2, hR', hp2⟩, hF2, hn2⟩ q3 g3 _ => ?_⟩
    simp only [List.cons.injEq, and_true] at e1 e2
    subst e1 e2
    obtain rfl := hRd.uniq hR'
    have G3 : Agree 5 ρ q3 := g1.trans ((g2.trans (g3.mono (by omega))).mono (by omega))
    have e3 : (ckCVs 6 qk2).map (CV.ev q3) = (ckCVs 6 qk2).map (CV.ev q2) := ag_row (a := 6) g3 (by rw [ckLen_qkk]; omega)
    rw [g3.i 154 (by omega), e3, g3.h 6 (by omega), hF2 trivial]
    rcases hp2 with ⟨row, r, hv, hx, hf, hb⟩ | ⟨hv, _⟩
    · obtain ⟨er, e154⟩ := tuple_agg hv
      rw [ckLen_qkk] at e154
      rw [← er] at hx
      refine ⟨fun h => absurd e154 h, fun _ => ?_⟩
      refine iFormQ hx fun q4 g4 f4 => ?_
      have G4 : Agree 5 ρ q4 := G3.trans (g4.mono (by omega))
      have e4 : (ckCVs 6 qk2).map (CV.ev q4) = (ckCVs 6 qk2).map (CV.ev q2) := (ag_row (a := 6) g4 (by rw [ckLen_qkk]; omega)).trans e3
      rw [f4, e4, g4.h 6 (by omega), g3.h 6 (by omega), hF2 trivial, G4.i 0 (by omega), G4.i 1 (by omega), G4.i 2 (by omega), G4.h 4 (by omega), v0, v1, v2, w4]
      have T := RdW.textV (x := x) (y := y) (l := b.length) (c := c) (R := R) (bs := b) (by rw [Int.toNat_natCast, Int.toNat_natCast]; exact hRd) hy (by omega)
      refine ⟨fun _ => ⟨T.1, ⟨_, _, _, _, r, rfl, rfl, hx, hf⟩, fun q5 g5 ⟨F5, hp5, hF5, hn5⟩ => ?_⟩, fun h => absurd hf h⟩
      have hO := (rqbyt_res hx hp5).rd.w
      rw [← hF5 trivial] at hO
      have hn5 : -1 ≤ q5.i 157 ∧ 0 ≤ q5.i 158 ∧ 0 ≤ q5.i 159 ∧ 0 ≤ q5.i 160 := hn5.1
      have G5 : Agree 5 ρ q5 := G4.trans (g5.mono (by omega))
      refine ⟨(RdW.textV hO hn5.2.1 hn5.2.2.1).1, out ?_⟩
      rw [bT_seq, sevT hO hn5.2.1 hn5.2.2.1 rfl, sevT (R := R) (bs := b) (d := 3) (by rw [G5.i 0 (by omega), G5.i 1 (by omega), G5.i 2 (by omega), G5.i 3 (by omega), v0, v1, v2, v3, Int.toNat_natCast, Int.toNat_natCast]; exact hRd) (by rw [G5.i 1 (by omega), v1]; exact hy) (by rw [G5.i 2 (by omega), v2]; omega) (by rw [G5.h 4 (by omega), w4]), hb]
    · obtain ⟨er, e154⟩ := tuple_agg hv
      rw [ckLen_qkk] at e154
      have e7 : q2.i 7 = 0 := by
        have := congrArg (fun l => cI l 1) er
        exact this
      rw [e154]
      refine ⟨fun _ => ⟨fun _ => out ?_, fun h => absurd rfl h⟩, fun h => (by omega)⟩
      rw [bev_eq, iev_var, iev_lit, g3.i 7 (by omega), e7]; rfl
end Go.Proofs.Ytkdllpialpfopaa
