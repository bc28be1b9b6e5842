/- Layer 22: the law's few and awake, as contracts; a request's bytes are bytes. Condition: bytes below 256. -/
import Derived.Test.YtkdllpialpfopaaAqR
import Derived.Test.YtkdllpialpfopaaAqH
import Derived.Test.YtkdllpialpfopaaAqK
set_option linter.unusedSimpArgs false
set_option linter.unusedVariables false
set_option linter.constructorNameAsVariable false
namespace Go.Proofs.Ytkdllpialpfopaa
open Go Go.Sx Go.Pk

/-! ### Bytes -/
theorem b_app {a b : List Int} (h1 : bytes256 a) (h2 : bytes256 b) : bytes256 (a ++ b) := fun z hz => (List.mem_append.1 hz).elim (h1 z) (h2 z)
theorem b_num (n : Nat) : bytes256 (numB n) := fun z hz => numB_byte n z hz
theorem b_flag (b : Bool) : bytes256 (flagB b) := by
  intro z hz
  unfold flagB at hz
  rw [List.mem_singleton] at hz
  subst hz
  cases b <;> simp
theorem b_vec : ∀ (l : List Int), bytes256 (vecB l)
  | [] => fun z hz => by cases hz
  | v :: l => by
    show bytes256 (numB v.toNat ++ vecB l)
    exact b_app (b_num _) (b_vec l)
theorem b_flat {T : List (List Int)} (h : ∀ t ∈ T, bytes256 t) : bytes256 T.flatten := by
  intro z hz
  obtain ⟨t, ht, hz⟩ := List.mem_flatten.1 hz
  exact h t ht z hz
theorem b_seg {R : Hl} {row : List Value} {h : Hd} (hx : IsHd R row h) {a n : Nat} (hk : ∀ j, j < n → hkd[a + j]? = some (.int .u8)) (h53 : ∀ j, j < n → a + j ≠ 53) : bytes256 (segI h.c a n) := by
  intro z hz
  obtain ⟨j, hj, rfl⟩ := List.mem_map.1 hz
  have hj := List.mem_range.1 hj
  rw [hx.I (h53 j hj)]
  obtain ⟨v, hv, hi⟩ := rowOK_get hx.ok (hk j hj)
  have hr := hx.rng v (List.mem_of_getElem? hv)
  unfold cI
  rw [hv]
  cases v <;> simp [valIs] at hi
  subst hi
  exact hr
theorem b_hd {R : Hl} {row : List Value} {h : Hd} (hx : IsHd R row h) : bytes256 (hdB h) := by
  have s1 := b_seg hx (a := 2) (n := 32) (by decide) (by omega)
  have s2 := b_seg hx (a := 37) (n := 16) (by decide) (by omega)
  have s3 := b_seg hx (a := 60) (n := 32) (by decide) (by omega)
  have s4 := b_seg hx (a := 93) (n := 32) (by decide) (by omega)
  unfold hdB coreB coreZ coreA
  exact b_app (b_app (b_app (b_app (b_app (b_app (b_app (b_app (b_app (b_app (b_app (b_app (b_app (b_app (b_app (b_app (b_app (b_num _) (b_num _)) s1) (b_num _)) (b_flag _)) (b_num _)) s2) (b_num _)) (b_flat fun t ht => (hx.byte.2 t ht).2)) (b_num _)) (b_num _)) (b_num _)) (b_num _)) (b_num _)) (b_num _)) s3) (b_num _)) s4
theorem b_text {b : List Int} (h : bytes256 b) : bytes256 (textBytes b) := b_app (b_num _) h
theorem b_pc {R1 R2 : Hl} {row : List Value} {c : Pc} (hx : IsPc R1 R2 row c) : bytes256 (pcB c) := by
  unfold pcB bytesOfH
  refine b_app (b_text ?_) (b_text hx.byte)
  split
  · exact b_hd hx.hd
  · exact fun z hz => by cases hz
theorem b_rq {R1 R2 R3 : Hl} {row : List Value} {r : Rq} (hx : IsRq R1 R2 R3 row r) : bytes256 (qB r) := by
  unfold qB kindB
  refine b_app (b_app (b_num _) (b_num _)) ?_
  split
  · unfold pcB bytesOfH
    refine b_app (b_text ?_) (b_text hx.byte)
    split
    · exact b_hd hx.hd
    · exact fun z hz => by cases hz
  · split
    · exact b_app (b_app (b_app (b_app (b_vec _) (b_flag _)) (b_num _)) (b_flat fun t ht => (hx.toks.2 t ht).2)) (b_num _)
    · split
      · exact b_app (b_num _) (b_num _)
      · exact fun z hz => by cases hz
/-- A formed request's bytes are few. -/
theorem rq_blen {R1 R2 R3 : Hl} {row : List Value} {r : Rq} (hx : IsRq R1 R2 R3 row r) (hf : r.Form) : (qB r).length ≤ 6000 := by
  have a1 := lenB (z := u64N (cI r.c 1)) (u64N_lt _)
  have a2 := lenB (z := u64N (cI r.c 136)) (u64N_lt _)
  have a3 := lenB (z := u64N (cI r.c 137)) (u64N_lt _)
  have u : ∀ k, qkd[k]? = some (.int .u64) → (k ≠ 55 ∧ k ≠ 127 ∧ k ≠ 135) → 0 ≤ cI r.c k ∧ cI r.c k < 18446744073709551616 := fun k hk h => by
    rw [hx.I h]
    obtain ⟨v, hv, hi⟩ := rowOK_get hx.ok hk
    have := hx.rng v (List.mem_of_getElem? hv)
    unfold cI
    rw [hv]
    cases v <;> simp [valIs] at hi
    subst hi
    exact this
  have u0 := u 0 (by kernel_rfl) (by decide)
  have u138 := u 138 (by kernel_rfl) (by decide)
  have a4 := lenB (z := (cI r.c 0).toNat) (by omega)
  have a5 := lenB (z := (cI r.c 138).toNat) (by omega)
  unfold qB kindB
  rcases hf with ⟨h1, _, _, hh, hb⟩ | ⟨h1, _, _, _, h8, _⟩ | ⟨h1, _⟩
  · rw [if_pos h1]
    unfold pcB textBytes
    have hb2 : r.b.length ≤ 2064 := by
      have := hh.2.2.2.1
      have e94 : cI r.c 94 = cI r.h.c 92 := by
        rw [hx.I (by decide), hx.hd.I (k := 92) (by decide)]
        unfold cI
        rw [List.getElem?_take_of_lt (by omega), List.getElem?_drop]
      have := isPad_in this
      omega
    have b1 := bytesOf_len hx.hd
    have b2 := lenB (z := (bytesOfH r.h).length) (by omega)
    have b3 := lenB (z := r.b.length) (by omega)
    simp only [List.length_append]; omega
  · rw [if_neg (by omega), if_pos h1]
    have b1 := vec_len (vs := segI r.c 128 6) (segI_len _ _ _) (fun z hz => by
      obtain ⟨j, hj, rfl⟩ := List.mem_map.1 hz
      exact u (128 + j) (k_cur j (List.mem_range.1 hj)) (by have := List.mem_range.1 hj; omega))
    have b2 := lenB (z := r.w.length) (by omega)
    have b3 : r.w.flatten.length = r.w.length * 16 := flat16 fun t ht => (hx.toks.2 t ht).1
    have b4 : (flagB (cB r.c 134)).length = 1 := rfl
    simp only [List.length_append]; omega
  · rw [if_neg (by omega), if_neg (by omega), if_pos h1]
    simp only [List.length_append]; omega
/-! ### few -/
def slLen (row : List Value) (k : Nat) : Nat := match row[k]? with
  | some (.slice _ l _) => l
  | _ => 0
def fewS : Sx.Spec where
  fn := 6
  own := []
  rd := []
  res := [.one .bool]
  pre := fun xs Hs Rs => ∃ row, xs = [.agg row.toArray] ∧ rowOK row qkd
  post := fun xs Hs Rs v Hs' F => ∃ row, xs = [.agg row.toArray] ∧ v = .bool (decide (slLen row 55 ≤ 20 ∧ slLen row 127 ≤ 2100 ∧ slLen row 135 ≤ 20))
def fewNd : Nd := .ext (.alloc 150) (.ext (.alloc 151) (.and (.e (.le (.lit 0) (.var 57))) (.and (.imp (.not (.lt (.lit 20) (.var 57))) (.and (.e (.le (.lit 0) (.var 132))) (.and (.imp (.lt (.lit 2100) (.var 132)) (.post [.dead, .dead] (.sv (.one (.bool .ff))))) (.imp (.not (.lt (.lit 2100) (.var 132))) (.and (.e (.le (.lit 0) (.var 143))) (.post [.dead, .dead] (.sv (.one (.bool (.le (.var 143) (.lit 20))))))))))) (.imp (.lt (.lit 20) (.var 57)) (.post [.dead, .dead] (.sv (.one (.bool .ff))))))))
noncomputable def fewW : Walk Try.prog [] 6 where
  Λ := noLoops
  args := (cpSVs 0 [.agg qk2]).map .sv
  mem := []
  nv := 150
  nd := fewNd
  ok := by kernel_rfl
theorem fewS_ok : fewS.OK Try.prog := by
  refine Spec.of_fn (Γ := []) (fun _ h => nomatch h) ?_
  rintro xs Hs Rs hl1 hl2 ⟨row, rfl, hx⟩
  have e0 : Hs = [] := List.length_eq_zero_iff.1 hl1
  have e1 : Rs = [] := List.length_eq_zero_iff.1 hl2
  subst e0 e1
  obtain ⟨ρ, rfl, hn, hh⟩ := row_env [] hx
  refine ⟨fewW, ρ, fun _ _ => True, fun _ _ => 0, by kernel_rfl, ⟨?_, ?_, ?_, ?_⟩, (fun _ h => nomatch h), ?_⟩
  · intro r hr ho; simp [fewW] at hr
  · intro r hr ho; simp [fewW] at hr
  · simp [fewW]
  · intro r hr; simp [fewW] at hr
  · show Nd.holds _ _ _ fewNd
    obtain ⟨n1, n2, n3⟩ := qnorms hn
    have s1 : slLen (qrow ρ) 55 = (ρ.i 57).toNat := by kernel_rfl
    have s2 : slLen (qrow ρ) 127 = (ρ.i 132).toNat := by kernel_rfl
    have s3 : slLen (qrow ρ) 135 = (ρ.i 143).toNat := by kernel_rfl
    have out : ∀ {q : Env} {e : E} {mem : Mem}, (bev q e = true ↔ (slLen (qrow ρ) 55 ≤ 20 ∧ slLen (qrow ρ) 127 ≤ 2100 ∧ slLen (qrow ρ) 135 ≤ 20)) → postOf fewS [.agg ((ckCVs 0 qk2).map (CV.ev ρ)).toArray] [] [] q mem (.sv (.one (.bool e))) := by
      intro q e mem he _
      exact ⟨[], [], rfl, rfl, ⟨⟨fun _ => 0, fun _ => bev q e, fun _ => .empty, fun _ => .tuple #[], fun _ => Hl.none⟩, rfl, trivial, trivial⟩, _, rfl, boolV he⟩
    rw [s1, s2, s3] at out
    unfold fewNd
    simp only [Nd.holds, X.pre, X.rel, X.n, Src.ok, Src.len, Src.vals, true_and, and_true, if_true, Nat.mul_one, Nat.add_zero, Nat.reduceAdd, List.length_cons, List.length_nil, bT_tt, bT_ff, bT_bvar, bT_not, bT_and, bT_or, bT_ite, bT_lt, bT_le, bT_eq, bT_beq, bT_seq, bT_hB, bT_his, bT_hby, bT_hism, bT_hks, iev_lit, iev_var, iev_add, iev_sub, iev_mul, iev_wrap, iev_ite, iev_hI, iev_hP, iev_hmlen, sev_ite, sev_slit, sev_sof, sev_svar, TV.ev, SV.ev, CV.ev, List.map_cons, List.map_nil, Res.hl]
    intro q1 g1 _ q2 g2 _
    have G : Agree 150 ρ q2 := g1.trans (g2.mono (by omega))
    rw [G.i 57 (by omega), G.i 132 (by omega), G.i 143 (by omega)]
    refine ⟨by omega, fun h20 => ⟨by omega, fun hb => out ⟨fun e => (by rw [bev_ff] at e; cases e), fun e => by omega⟩, fun hb => ⟨by omega, out ?_⟩⟩, fun h20 => out ⟨fun e => (by rw [bev_ff] at e; cases e), fun e => by omega⟩⟩
    simp only [bT_le, iev_var, iev_lit, G.i 143 (by omega)]
    omega
/-! ### awake -/
def awakeS : Sx.Spec where
  fn := 5
  own := []
  rd := []
  res := [.one .bool]
  pre := fun xs Hs Rs => xs = []
  post := fun xs Hs Rs v Hs' F => v = .bool true
def qRA : List CV := [.int .u64 (.lit 0), .int .i64 (.lit 2)] ++ (hzC ++ (nilC :: (v6z ++ [.bool .ff, nilC, .int .i64 (.lit 1), .int .i64 (.lit 0), .int .u64 (.lit 0)])))
theorem qRA_ev (q : Env) : qRA.map (CV.ev q) = rqRow 0 2 zpc nz6 false nilV 1 0 0 := by kernel_rfl
noncomputable def lwΓ : List Sx.Spec := [qBytesS, formQ 9, formQ 8, rqBytS, qParseS]
theorem lwΓ_ok : ∀ t ∈ lwΓ, t.OK Try.prog := fun t ht => by
  simp only [lwΓ, List.mem_cons, List.mem_nil_iff, or_false] at ht
  rcases ht with rfl | rfl | rfl | rfl | rfl
  · exact qBytesS_ok
  · exact eFormQ_ok
  · exact rFormQ_ok
  · exact rqBytS_ok
  · exact qParseS_ok
def awakeNd : Nd := .and (.pre (.call 0 0 [.sv (.agg qRA)] [] [.dead, .dead, .dead])) (.ext (.call 0 0 [.sv (.agg qRA)] [] [.dead, .dead, .dead]) (.and (.imp (.eq (.var 4) (.lit 0)) (.and (.e (.le (.lit 0) (.var 2))) (.post [.hp 0 [] [.var 0] []] (.sv (.one (.bool (.eq (.var 2) (.lit 11)))))))) (.imp (.not (.eq (.var 4) (.lit 0))) (.post [.hp 0 [] [.var 0] []] (.sv (.one (.bool .ff)))))))
noncomputable def awakeW : Walk Try.prog lwΓ 5 where
  Λ := noLoops
  args := []
  mem := []
  nv := 0
  nd := awakeNd
  ok := by kernel_rfl
theorem lwg0 : lwΓ[0]? = some qBytesS := rfl
theorem lwr0 : qBytesS.res = [.one .sl, .one (.int .i64)] := rfl
theorem rcQ (n : Nat) : (cpRoots n [Cp.one .sl, Cp.one (.int .i64)] ≠ []) = True := by simp [cpRoots, Cp.roots, Ck.root]
/-- What Bytes answers. -/
theorem qbytes_res {row : List Value} {R1 R2 R3 : Hl} {r : Rq} {Hs K : List Hl} {F : Hl} {q : Env} {n m : Nat} (hx : IsRq R1 R2 R3 row r) (hp : qBytesS.post [.agg row.toArray] Hs [R1, R2, R3] (.tuple #[.slice (slP (q.i n) (q.i (n + 1))) (q.i (n + 2)).toNat (q.i (n + 3)).toNat, .int .i64 (q.i m)]) K F) :
    q.i m = (qRes r).2 ∧ OwB F 5 (.slice (slP (q.i n) (q.i (n + 1))) (q.i (n + 2)).toNat (q.i (n + 3)).toNat) (qRes r).1 := by
  obtain ⟨row', R1', R2', R3', r', u, e1, e2, x', hv, hO⟩ := hp
  simp only [List.cons.injEq, Value.agg.injEq, and_true] at e1 e2
  obtain ⟨rfl, rfl, rfl⟩ := e2
  obtain rfl := List.toArray_inj e1
  obtain rfl := hx.uniq x'
  obtain ⟨h1, h2⟩ := tuple2 hv
  subst h1
  simp only [Value.int.injEq, true_and] at h2
  exact ⟨h2, hO⟩
theorem seg_vals {c : List Value} (h : segI c 128 6 = nz6) : cI c 128 = 0 ∧ cI c 129 = 0 ∧ cI c 130 = 0 ∧ cI c 131 = 0 ∧ cI c 132 = 0 ∧ cI c 133 = 0 := by
  have h : [cI c 128, cI c 129, cI c 130, cI c 131, cI c 132, cI c 133] = [0, 0, 0, 0, 0, 0] := h
  simpa using h
theorem awakeS_ok : awakeS.OK Try.prog := by
  refine Spec.of_fn (Γ := lwΓ) lwΓ_ok ?_
  rintro xs Hs Rs hl1 hl2 rfl
  have e0 : Hs = [] := List.length_eq_zero_iff.1 hl1
  have e1 : Rs = [] := List.length_eq_zero_iff.1 hl2
  subst e0 e1
  refine ⟨awakeW, envI [] false [], fun _ _ => True, fun _ _ => 0, rfl, ⟨?_, ?_, ?_, ?_⟩, (fun _ h => nomatch h), ?_⟩
  · intro r hr ho; simp [awakeW] at hr
  · intro r hr ho; simp [awakeW] at hr
  · simp [awakeW]
  · intro r hr; simp [awakeW] at hr
  · show Nd.holds _ _ _ awakeNd
    unfold awakeNd
    simp only [Nd.holds, X.pre, X.rel, X.n, Src.ok, Src.len, Src.vals, true_and, and_true, if_true, Nat.mul_one, Nat.add_zero, Nat.reduceAdd, List.length_cons, List.length_nil, bT_tt, bT_ff, bT_bvar, bT_not, bT_and, bT_or, bT_ite, bT_lt, bT_le, bT_eq, bT_beq, bT_seq, bT_hB, bT_his, bT_hby, bT_hism, bT_hks, iev_lit, iev_var, iev_add, iev_sub, iev_mul, iev_wrap, iev_ite, iev_hI, iev_hP, iev_hmlen, sev_ite, sev_slit, sev_sof, sev_svar, TV.ev, SV.ev, CV.ev, List.map_cons, List.map_nil, Res.hl, cpTV, Cp.sv, Ck.cv, cpSVs, Cp.len, Ck.len, newHs_zero, newHs_one, roots_ne, lwg0, lwr0, rcQ]
    rw [qRA_ev]
    obtain ⟨r, hx, hrh, hrb, hrw, hT⟩ := mkRq (R1 := Hl.none) (R2 := Hl.none) (R3 := Hl.none) (id := 0) (kind := 2) (most := 1) (writer := 0) (seq := 0) (all := false) (u := nilV) (w := []) (cur := nz6) (zpc_is _ _) rfl nz6_in (by omega) (by unfold i64in; omega) (by unfold i64in; omega) (by unfold i64in; omega) (by omega) (nil_rows _) nil_toks
    have c0 := seg_vals hT.cur
    have hf : r.Form := by
      refine Or.inr (Or.inl ⟨hT.kind, ⟨hrb, hrh⟩, ⟨hT.writer, hT.seq⟩, ?_, by rw [hrw]; exact Nat.zero_le _, by rw [hrw]; exact fun i hi => absurd hi (by simp), fun _ => hrw, by rw [hT.most]; omega, by rw [hT.most]; omega⟩)
      unfold Rq.Small
      omega
    have hl : (qB r).length = 11 := by
      unfold qB kindB
      rw [hT.kind, hT.id, hT.cur, hT.all, hT.most, hrw]
      rw [if_neg (by omega), if_pos rfl, u64N_id (z := 2) (by omega) (by omega), u64N_id (z := 1) (by omega) (by omega)]
      simp [vecB, nz6, numB_low, flagB]
    refine ⟨⟨_, _, _, _, r, rfl, rfl, hx⟩, fun q g ⟨F, hp, hF, hn⟩ => ?_⟩
    obtain ⟨e4, hO⟩ := qbytes_res hx hp
    have eQ : qRes r = (qB r, 0) := by unfold qRes; rw [if_pos hf]
    rw [eQ] at e4 hO
    have hn : -1 ≤ q.i 0 ∧ 0 ≤ q.i 1 ∧ 0 ≤ q.i 2 ∧ 0 ≤ q.i 3 := hn.1
    have hl2 := (hO.rd.at hn.1 hn.2.1 hn.2.2.1).1
    refine ⟨fun _ => ⟨hn.2.2.1, fun _ => ?_⟩, fun h => absurd e4 h⟩
    refine ⟨[], [], rfl, rfl, ⟨⟨fun _ => 0, fun _ => true, fun _ => .empty, fun _ => .tuple #[], fun _ => Hl.none⟩, ?_, trivial, trivial⟩, ?_⟩
    all_goals
      show Value.bool (decide (q.i 2 = 11)) = _
      rw [hl2, hl]; rfl
end Go.Proofs.Ytkdllpialpfopaa
