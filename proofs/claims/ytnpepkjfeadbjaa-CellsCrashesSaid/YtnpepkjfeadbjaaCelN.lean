/- Layer 8: law08.CellsGrows, as a contract. No condition. -/
import Derived.Test.YtnpepkjfeadbjaaCelM
set_option linter.unusedSimpArgs false
set_option linter.unusedVariables false
set_option linter.constructorNameAsVariable false
namespace Go.Proofs.Ytnpepkjfeadbjaa
open Go Go.Sx

/-- Slices of bytes that may be read, in a slice. -/
def SlB (R : Hl) (v : Value) (us : List Value) (rows : List (List Int)) : Prop :=
  ∃ (x y : Int) (c : Nat), v = .slice (slP x y) us.length c ∧ 0 ≤ y ∧ us.length = rows.length ∧ (∀ (j : Nat) (u : Value), us[j]? = some u → 0 ≤ x ∧ R.cell x.toNat (y.toNat + j) = some u) ∧ ∀ (j : Nat) (u : Value) (r : List Int), us[j]? = some u → rows[j]? = some r → RdW R u r
def growsS : Sx.Spec where
  fn := 3
  own := []
  rd := [100]
  res := [.one .bool]
  pre := fun xs Hs Rs => ∃ v n R us rows, xs = [v, .int .u8 n] ∧ Rs = [R] ∧ SlB R v us rows
  post := fun xs Hs Rs v Hs' F => v = .bool true
def growsNd : Nd := .and (.pre (.call 8 6 [] [] [])) (.ext (.call 8 6 [] [] []) (.and (.imp (.bvar 6) (.and (.e (.le (.lit 0) (.var 2))) (.and (.imp (.lt (.lit 20) (.var 2)) (.and (.pre (.call 8 7 [] [] [])) (.ext (.call 8 7 [] [] []) (.post [.ro 5 [.var 0] true] (.sv (.one (.bool (.bvar 7)))))))) (.imp (.not (.lt (.lit 20) (.var 2))) (.and (.pre (.call 0 7 [.sv (.one (.int .i64 (.lit 40)))] [] [])) (.ext (.call 0 7 [.sv (.one (.int .i64 (.lit 40)))] [] []) (.and (.inv 0 [⟨20, 2, .str (.slit ⟨#[]⟩)⟩, ⟨21, 0, .int .i64 (.lit 0)⟩] [(22, some 7)]) (.havoc 0 0 9 (.and (.imp (.lt (.var 21) (.var 2)) (.and (.e (.le (.lit 0) (.var 0))) (.and (.e (.le (.lit 0) (.var 1))) (.and (.e (.le (.lit 0) (.var 21))) (.and (.e (.his 5 (.var 0) (.add (.var 1) (.var 21)) 0 .slice)) (.and (.e (.le (.lit 0) (.hP 5 (.var 0) (.add (.var 1) (.var 21)) 0 2))) (.and (.imp (.lt (.lit 60) (.hP 5 (.var 0) (.add (.var 1) (.var 21)) 0 2)) (.post [.ro 5 [.var 0] true, .hp 22 [] [.var 7] []] (.sv (.one (.bool .tt))))) (.imp (.not (.lt (.lit 60) (.hP 5 (.var 0) (.add (.var 1) (.var 21)) 0 2))) (.and (.pre (.call 1 30 [.sv (.one (.hptr (.var 7) (.var 8))), .sv (.one (.int .i64 (.lit 2))), .sv (.one (.int .i64 (.lit 30)))] [.hp 22 [] [.var 7] []] [])) (.ext (.call 1 30 [.sv (.one (.hptr (.var 7) (.var 8))), .sv (.one (.int .i64 (.lit 2))), .sv (.one (.int .i64 (.lit 30)))] [.hp 22 [] [.var 7] []] []) (.and (.imp (.not (.eq (.var 32) (.lit 0))) (.post [.ro 5 [.var 0] true, .hp 30 [22] [.var 7] [], .hp 31 [] [.var 30] [.var 7]] (.sv (.one (.bool .ff))))) (.imp (.eq (.var 32) (.lit 0)) (.and (.pre (.call 7 33 [.sv (.one (.int .u8 (.wrap .u8 (.add (.var 4) (.wrap .u8 (.var 21))))))] [] [])) (.ext (.call 7 33 [.sv (.one (.int .u8 (.wrap .u8 (.add (.var 4) (.wrap .u8 (.var 21))))))] [] []) (.and (.pre (.call 2 49 [.sv (.one (.hptr (.var 30) (.var 31))), .sv (.one (.sl (.hP 5 (.var 0) (.add (.var 1) (.var 21)) 0 0) (.hP 5 (.var 0) (.add (.var 1) (.var 21)) 0 1) (.hP 5 (.var 0) (.add (.var 1) (.var 21)) 0 2) (.hP 5 (.var 0) (.add (.var 1) (.var 21)) 0 3))), .sv (.agg (ckCVs 33 (List.replicate 16 (Ck.int .u8))))] [.hp 31 [] [.var 30] [.var 7], .hp 30 [22] [.var 7] []] [.ro 5 [.var 0] true])) (.ext (.call 2 49 [.sv (.one (.hptr (.var 30) (.var 31))), .sv (.one (.sl (.hP 5 (.var 0) (.add (.var 1) (.var 21)) 0 0) (.hP 5 (.var 0) (.add (.var 1) (.var 21)) 0 1) (.hP 5 (.var 0) (.add (.var 1) (.var 21)) 0 2) (.hP 5 (.var 0) (.add (.var 1) (.var 21)) 0 3))), .sv (.agg (ckCVs 33 (List.replicate 16 (Ck.int .u8))))] [.hp 31 [] [.var 30] [.var 7], .hp 30 [22] [.var 7] []] [.ro 5 [.var 0] true]) (.and (.imp (.not (.eq (.var 49) (.lit 0))) (.post [.ro 5 [.var 0] true, .hp 50 [30, 22] [.var 7] [], .hp 49 [31] [.var 30] [.var 7]] (.sv (.one (.bool .ff))))) (.imp (.eq (.var 49) (.lit 0)) (.and (.e (.or (.eq (.hP 5 (.var 0) (.add (.var 1) (.var 21)) 0 0) (.lit (-1))) (.or (.eq (.hP 5 (.var 0) (.add (.var 1) (.var 21)) 0 2) (.lit 0)) (.and (.le (.lit 0) (.hP 5 (.var 0) (.add (.var 1) (.var 21)) 0 0)) (.and (.le (.lit 0) (.hP 5 (.var 0) (.add (.var 1) (.var 21)) 0 1)) (.hby 5 (.hP 5 (.var 0) (.add (.var 1) (.var 21)) 0 0) (.hP 5 (.var 0) (.add (.var 1) (.var 21)) 0 1) (.hP 5 (.var 0) (.add (.var 1) (.var 21)) 0 2))))))) (.and (.e (.le (.add (.slen (.svar 20)) (.slen (.ite (.eq (.hP 5 (.var 0) (.add (.var 1) (.var 21)) 0 0) (.lit (-1))) (.slit ⟨#[]⟩) (.sof 5 (.hP 5 (.var 0) (.add (.var 1) (.var 21)) 0 0) (.hP 5 (.var 0) (.add (.var 1) (.var 21)) 0 1) (.hP 5 (.var 0) (.add (.var 1) (.var 21)) 0 2))))) (.lit 9223372036854775807))) (.back 0 0 [⟨20, 2, .str (.scat (.svar 20) (.ite (.eq (.hP 5 (.var 0) (.add (.var 1) (.var 21)) 0 0) (.lit (-1))) (.slit ⟨#[]⟩) (.sof 5 (.hP 5 (.var 0) (.add (.var 1) (.var 21)) 0 0) (.hP 5 (.var 0) (.add (.var 1) (.var 21)) 0 1) (.hP 5 (.var 0) (.add (.var 1) (.var 21)) 0 2))))⟩, ⟨21, 0, .int .i64 (.wrap .i64 (.add (.var 21) (.lit 1)))⟩] [(22, some 50)]))))))))))))))))))))) (.imp (.not (.lt (.var 21) (.var 2))) (.and (.pre (.call 1 30 [.sv (.one (.hptr (.var 7) (.var 8))), .sv (.one (.int .i64 (.lit 2))), .sv (.one (.int .i64 (.lit 30)))] [.hp 22 [] [.var 7] []] [])) (.ext (.call 1 30 [.sv (.one (.hptr (.var 7) (.var 8))), .sv (.one (.int .i64 (.lit 2))), .sv (.one (.int .i64 (.lit 30)))] [.hp 22 [] [.var 7] []] []) (.and (.imp (.eq (.var 32) (.lit 0)) (.and (.pre (.call 3 33 [.sv (.one (.hptr (.var 30) (.var 31)))] [] [.hp 31 [] [.var 30] [.var 7], .hp 31 [] [.var 30] [.var 7]])) (.ext (.call 3 33 [.sv (.one (.hptr (.var 30) (.var 31)))] [] [.hp 31 [] [.var 30] [.var 7], .hp 31 [] [.var 30] [.var 7]]) (.and (.e (.or (.eq (.var 33) (.lit (-1))) (.or (.eq (.var 35) (.lit 0)) (.and (.le (.lit 0) (.var 33)) (.and (.le (.lit 0) (.var 34)) (.hby 33 (.var 33) (.var 34) (.var 35))))))) (.and (.imp (.seq (.ite (.eq (.var 33) (.lit (-1))) (.slit ⟨#[]⟩) (.sof 33 (.var 33) (.var 34) (.var 35))) (.svar 20)) (.and (.pre (.call 4 37 [.sv (.one (.hptr (.var 30) (.var 31)))] [] [.hp 31 [] [.var 30] [.var 7]])) (.ext (.call 4 37 [.sv (.one (.hptr (.var 30) (.var 31)))] [] [.hp 31 [] [.var 30] [.var 7]]) (.and (.imp (.eq (.var 37) (.wrap .u64 (.var 2))) (.and (.imp (.not (.eq (.var 2) (.lit 0))) (.and (.pre (.call 5 38 [.sv (.one (.hptr (.var 30) (.var 31)))] [] [.hp 31 [] [.var 30] [.var 7]])) (.ext (.call 5 38 [.sv (.one (.hptr (.var 30) (.var 31)))] [] [.hp 31 [] [.var 30] [.var 7]]) (.and (.pre (.call 7 54 [.sv (.one (.int .u8 (.wrap .u8 (.add (.var 4) (.wrap .u8 (.wrap .i64 (.sub (.var 2) (.lit 1))))))))] [] [])) (.ext (.call 7 54 [.sv (.one (.int .u8 (.wrap .u8 (.add (.var 4) (.wrap .u8 (.wrap .i64 (.sub (.var 2) (.lit 1))))))))] [] []) (.post [.ro 5 [.var 0] true, .hp 30 [22] [.var 7] [], .hp 31 [] [.var 30] [.var 7], .hp 33 [] [.var 33] []] (.sv (.one (.bool (.and (.eq (.var 38) (.var 54)) (.and (.eq (.var 39) (.var 55)) (.and (.eq (.var 40) (.var 56)) (.and (.eq (.var 41) (.var 57)) (.and (.eq (.var 42) (.var 58)) (.and (.eq (.var 43) (.var 59)) (.and (.eq (.var 44) (.var 60)) (.and (.eq (.var 45) (.var 61)) (.and (.eq (.var 46) (.var 62)) (.and (.eq (.var 47) (.var 63)) (.and (.eq (.var 48) (.var 64)) (.and (.eq (.var 49) (.var 65)) (.and (.eq (.var 50) (.var 66)) (.and (.eq (.var 51) (.var 67)) (.and (.eq (.var 52) (.var 68)) (.eq (.var 53) (.var 69)))))))))))))))))))))))))) (.imp (.eq (.var 2) (.lit 0)) (.post [.ro 5 [.var 0] true, .hp 30 [22] [.var 7] [], .hp 31 [] [.var 30] [.var 7], .hp 33 [] [.var 33] []] (.sv (.one (.bool .tt))))))) (.imp (.not (.eq (.var 37) (.wrap .u64 (.var 2)))) (.post [.ro 5 [.var 0] true, .hp 30 [22] [.var 7] [], .hp 31 [] [.var 30] [.var 7], .hp 33 [] [.var 33] []] (.sv (.one (.bool .ff))))))))) (.imp (.not (.seq (.ite (.eq (.var 33) (.lit (-1))) (.slit ⟨#[]⟩) (.sof 33 (.var 33) (.var 34) (.var 35))) (.svar 20))) (.post [.ro 5 [.var 0] true, .hp 30 [22] [.var 7] [], .hp 31 [] [.var 30] [.var 7], .hp 33 [] [.var 33] []] (.sv (.one (.bool .ff)))))))))) (.imp (.not (.eq (.var 32) (.lit 0))) (.post [.ro 5 [.var 0] true, .hp 30 [22] [.var 7] [], .hp 31 [] [.var 30] [.var 7]] (.sv (.one (.bool .ff)))))))))))))))))) (.imp (.not (.bvar 6)) (.and (.pre (.call 8 7 [] [] [])) (.ext (.call 8 7 [] [] []) (.post [.ro 5 [.var 0] true] (.sv (.one (.bool (.bvar 7))))))))))
def gΓ : List Sx.Spec := [newS, openS, appendS, bytesS, serialS, lnoteS, roomS, noteS, awakeS]
theorem gΓ_ok : ∀ t ∈ gΓ, t.OK Try.prog := fun t ht => by
  simp only [gΓ, List.mem_cons, List.mem_nil_iff, or_false] at ht
  rcases ht with rfl | rfl | rfl | rfl | rfl | rfl | rfl | rfl | rfl
  · exact newS_ok
  · exact openS_ok
  · exact appendS_ok
  · exact bytesS_ok
  · exact serialS_ok
  · exact lnoteS_ok
  · exact roomS_ok
  · exact noteS_ok
  · exact awakeS_ok
def growsW : Walk Try.prog gΓ growsS.fn where
  Λ := fun p => if lp p then some ⟨0, [(6, .sv (.one (.str (.svar 20)))), (7, TI .i64 (.var 21))], [(1, .hp 22 [] [.var 7] [])], 30⟩ else none
  args := [.sv (.one (.sl (.var 0) (.var 1) (.var 2) (.var 3))), TI .u8 (.var 4)]
  mem := [.ro 5 [.var 0] true]
  nv := 6
  nd := growsNd
  ok := by kernel_rfl
theorem gg0 : gΓ[0]? = some newS := rfl
theorem gg1 : gΓ[1]? = some openS := rfl
theorem gg2 : gΓ[2]? = some appendS := rfl
theorem gg3 : gΓ[3]? = some bytesS := rfl
theorem gg4 : gΓ[4]? = some serialS := rfl
theorem gg5 : gΓ[5]? = some lnoteS := rfl
theorem gg7 : gΓ[7]? = some noteS := rfl
theorem gg8 : gΓ[8]? = some awakeS := rfl
theorem gr4 : serialS.res = [.one (.int .u64)] := rfl
theorem gr5 : lnoteS.res = [.agg (u8s 16)] := rfl
theorem gr7 : noteS.res = [.agg (u8s 16)] := rfl
theorem gr8 : awakeS.res = [.one .bool] := rfl
theorem bytesOf_app : ∀ (a b : List Int), bytesOf (a ++ b) = bytesOf a ++ bytesOf b
  | [], b => by simp [bytesOf]
  | x :: a, b => by rw [List.cons_append, bytesOf_cons x (a ++ b), bytesOf_app a b, bytesOf_cons x a, ByteArray.append_assoc]
theorem bytesOf_size : ∀ (a : List Int), (bytesOf a).size = a.length
  | [] => rfl
  | x :: a => by
    rw [bytesOf_cons, ByteArray.size_append, bytesOf_size a, List.length_cons]
    have : (bytesOf [x]).size = 1 := rfl
    omega
/-- A slice's value, out of its parts. -/
theorem sl_parts {u : Value} (h : ∃ a l c, u = .slice a l c) : Value.slice (slP (valP (some u) 0) (valP (some u) 1)) (valP (some u) 2).toNat (valP (some u) 3).toNat = u := by
  obtain ⟨a, n, c, rfl⟩ := h
  cases a with
  | none => simp [valP, slP]
  | some a =>
    obtain ⟨b, o, s⟩ := a
    cases s with
    | none => simp [valP, slP]
    | some s =>
      simp only [valP, Int.toNat_natCast]
      unfold slP
      rw [if_neg (by omega), if_neg (by omega), Int.toNat_natCast, unp_pair, show (-(-(b : Int) - 2) - 2).toNat = b by omega]
theorem RdW.parts {R : Hl} {u : Value} {r : List Int} (h : RdW R u r) : (∃ a l c, u = .slice a l c) ∧ valP (some u) 2 = r.length ∧
    (valP (some u) 0 = -1 ∨ valP (some u) 2 = 0 ∨ 0 ≤ valP (some u) 0 ∧ 0 ≤ valP (some u) 1 ∧ cellBytes R (valP (some u) 0).toNat (valP (some u) 1).toNat (valP (some u) 2).toNat = true) ∧
    (if valP (some u) 0 = -1 then ByteArray.empty else bytesOf (cellInts R (valP (some u) 0).toNat (valP (some u) 1).toNat (valP (some u) 2).toNat)) = bytesOf r := by
  obtain ⟨x, y, c, rfl, hy, h⟩ := h
  have h2 : valP (some (.slice (slP x y) r.length c)) 2 = r.length := by
    cases hs : slP x y with
    | none => rfl
    | some a => obtain ⟨b, o, s⟩ := a; cases s <;> rfl
  refine ⟨⟨_, _, _, rfl⟩, h2, ?_⟩
  rw [h2]
  rcases h with h | ⟨hx, hc⟩
  · subst h
    refine ⟨Or.inr (Or.inl rfl), ?_⟩
    show (if _ then ByteArray.empty else bytesOf (cellInts R _ _ 0)) = ByteArray.empty
    split <;> rfl
  · rw [valP_sl0 (by omega), valP_sl1 hx hy, Int.toNat_natCast]
    refine ⟨Or.inr (Or.inr ⟨hx, hy, cells_bytes hc (Nat.le_refl _)⟩), ?_⟩
    rw [if_neg (by omega), cells_ints hc]
theorem u8_get {q : Env} : ∀ (m n : Nat) (l : List Int), (ckCVs n (List.replicate m (Ck.int .u8))).map (CV.ev q) = bys l → ∀ k, k < m → q.i (n + k) = l.getD k 0
  | m + 1, n, [], h, _, _ => by rw [List.replicate_succ] at h; cases h
  | m + 1, n, z :: l, h, 0, _ => by
    rw [List.replicate_succ] at h
    have h : Value.int .u8 (q.i n) :: _ = Value.int .u8 z :: bys l := h
    simp only [List.cons.injEq, Value.int.injEq, true_and] at h
    exact h.1
  | m + 1, n, z :: l, h, k + 1, hk => by
    rw [List.replicate_succ] at h
    have h : CV.ev q (.int .u8 (.var n)) :: (ckCVs (n + 1) (List.replicate m (Ck.int .u8))).map (CV.ev q) = Value.int .u8 z :: bys l := h
    simp only [List.cons.injEq] at h
    have := u8_get m (n + 1) l h.2 k (by omega)
    rw [show n + (k + 1) = n + 1 + k by omega, this]; rfl
/-- The note of a number. -/
def gNote (n : Int) (i : Int) : Int := IntKind.u8.wrap (n + IntKind.u8.wrap i)
def growsInv (n : Int) (rows : List (List Int)) (_ : Nat) (q : Env) : Prop := ∃ (i : Nat) (D : DM) (nt : List Int), q.i 21 = i ∧ i ≤ rows.length ∧ q.s 20 = bytesOf (rows.take i).flatten ∧ DiskAt (q.h 22) (.pointer (slP (q.i 7) (q.i 8))) D ∧ Holds D 2 30 i (rows.take i).flatten nt ∧ (i = 0 ∨ nt = noteL (gNote n (i - 1))) ∧ (rows.take i).flatten.length ≤ 60 * i
set_option maxRecDepth 20000 in
theorem growsS_ok : growsS.OK Try.prog := by
  refine Spec.of_fn (Γ := gΓ) gΓ_ok ?_
  rintro xs Hs Rs hl1 hl2 ⟨v, n, R, us, rows, rfl, rfl, x, y, c, rfl, hy, hlen, hcell, hrow⟩
  have e0 : Hs = [] := List.length_eq_zero_iff.1 hl1
  subst e0
  refine ⟨growsW, envI [x, y, us.length, c, n] false [Hl.none, Hl.none, Hl.none, Hl.none, Hl.none, R], growsInv n rows, fun _ q => (rows.length - q.i 21).toNat, ?_, ⟨?_, ?_, ?_, ?_⟩, (fun _ h => nomatch h), ?_⟩
  · show [Value.slice (slP x y) ((us.length : Int)).toNat ((c : Int)).toNat, Value.int .u8 n] = _
    rw [Int.toNat_natCast, Int.toNat_natCast]
  · intro r hr ho; simp [growsW] at hr; subst hr; cases ho
  · intro r hr ho; simp [growsW] at hr; subst hr; exact ⟨R, by simp, Hl.le_refl _⟩
  · simp [growsW]
  · intro r hr; simp [growsW] at hr; subst hr; trivial
  · show Nd.holds _ _ _ growsNd
    generalize hρ : envI [x, y, us.length, c, n] false [Hl.none, Hl.none, Hl.none, Hl.none, Hl.none, R] = ρ
    have v0 : ρ.i 0 = x := by rw [← hρ]; rfl
    have v1 : ρ.i 1 = y := by rw [← hρ]; rfl
    have v2 : ρ.i 2 = rows.length := by rw [← hρ, ← hlen]; rfl
    have v4 : ρ.i 4 = n := by rw [← hρ]; rfl
    have w5 : ρ.h 5 = R := by rw [← hρ]; rfl
    have yes : ∀ (q : Env) (mem : Mem) (e : E), bev q e = true → postOf growsS [.slice (slP x y) us.length c, .int .u8 n] [] [R] q mem (.sv (.one (.bool e))) := fun q mem e he _ =>
      ⟨[], [], rfl, rfl, ⟨⟨fun _ => 0, fun _ => true, fun _ => .empty, fun _ => .tuple #[], fun _ => Hl.none⟩, by show Value.bool (bev q e) = .bool true; rw [he], trivial, trivial⟩, by show Value.bool (bev q e) = .bool true; rw [he]⟩
    unfold growsNd
    simp only [Nd.holds, X.pre, X.rel, X.n, Src.ok, Src.len, Src.vals, true_and, and_true, if_true, Nat.mul_one, Nat.add_zero, Nat.reduceAdd, List.length_cons, List.length_nil, bT_tt, bT_ff, bT_bvar, bT_not, bT_and, bT_or, bT_ite, bT_lt, bT_le, bT_eq, bT_beq, bT_seq, bT_hB, bT_his, bT_hby, bT_hism, bT_hks, iev_lit, iev_var, iev_add, iev_sub, iev_mul, iev_wrap, iev_ite, iev_hI, iev_hP, iev_hmlen, sev_ite, sev_slit, sev_sof, sev_svar, TV.ev, SV.ev, CV.ev, List.map_cons, List.map_nil, Res.hl, cpTV, Cp.sv, Ck.cv, cpSVs, Cp.len, Ck.len, newHs_zero, newHs_one, roots_ne, gg0, gg1, gg2, gg3, gg4, gg5, gg7, gg8, cr0, cr1, cr2, ar1, gr4, gr5, gr7, gr8, cc0, cc1, ac1, iev_slen]
    refine ⟨rfl, fun q1 g1 ⟨F1, hp1, _, _⟩ => ?_⟩
    have hb1 : q1.b 6 = true := by
      have h : Value.bool (q1.b 6) = .bool true := hp1
      simpa using h
    rw [hb1, g1.i 2 (by omega), v2]
    refine ⟨fun _ => ⟨by omega, fun _ => ⟨rfl, fun q2 g2 ⟨F2, hp2, _, _⟩ => yes q2 _ _ ?_⟩, fun h20 => ⟨⟨40, rfl⟩, fun q2 g2 ⟨F2, ⟨n2, hx2, hD2⟩, hF2, _⟩ => ?_⟩⟩, fun h => absurd rfl h⟩
    · have h : Value.bool (q2.b 7) = .bool true := hp2
      rw [bev_bvar]
      simpa using h
    have hx2 : n2 = 40 := by simpa using hx2.symm
    subst hx2
    have hF2 := hF2 trivial
    subst hF2
    have hH0 := newD_holds (m := 40) (n := 30) (frm := 2) (by decide) (by decide) (by decide)
    refine ⟨⟨0, newD 40, List.replicate 16 0, rfl, by omega, rfl, hD2, hH0, Or.inl rfl, by simp⟩, fun q g ⟨i, D, nt, e21, hi, es, hD, hH, hnt, hfl⟩ => ?_⟩
    have P6 : Agree 6 ρ q := (g1.trans (g2.mono (by omega))).trans (g.mono (by omega))
    rw [P6.i 2 (by omega), v2, e21, P6.i 0 (by omega), v0, P6.i 1 (by omega), v1, P6.h 5 (by omega), w5]
    have hoe : openE D 2 30 = 0 := hH.openE
    have hoL : openL D 2 30 = _ := hH.openL
    have hoB : openB D 2 30 = _ := hH.openB
    refine ⟨fun hlt => ?_, fun hge => ?_⟩
    · have hir : i < rows.length := by omega
      have hiu : i < us.length := by omega
      obtain ⟨u, hu⟩ : ∃ u, us[i]? = some u := ⟨_, List.getElem?_eq_getElem hiu⟩
      obtain ⟨r, hr⟩ : ∃ r, rows[i]? = some r := ⟨_, List.getElem?_eq_getElem hir⟩
      obtain ⟨hx0, hc⟩ := hcell i u hu
      have hrd := hrow i u r hu hr
      obtain ⟨hsl, h2, hcb, htx⟩ := RdW.parts hrd
      have hc' : R.cell x.toNat (y + (i : Int)).toNat = some u := by
        rw [show (y + (i : Int)).toNat = y.toNat + i by omega]; exact hc
      have hfl' : (rows.take (i + 1)).flatten = (rows.take i).flatten ++ r := by
        rw [List.take_add_one, hr]; simp
      rw [hc', h2]
      refine ⟨hx0, hy, by omega, by obtain ⟨a, l, c, rfl⟩ := hsl; rfl, by omega, fun _ => yes q _ _ (bev_tt _), fun h60 => ⟨⟨_, 2, 30, _, D, rfl, rfl, hD⟩, fun q3 g3 ⟨F3, hp3, hF3, _⟩ => ?_⟩⟩
      have hF3 := hF3 trivial
      obtain ⟨pv, hD3, hv3, hl3, _⟩ := open_post hD hp3
      have hl3 := hl3 hoe
      rw [hoe] at hv3
      rw [hoL, hoB, ← hF3] at hl3
      simp only [Value.tuple.injEq, Array.mk.injEq, List.cons.injEq, Value.int.injEq, true_and, and_true] at hv3
      obtain ⟨rfl, h32⟩ := hv3
      have P3 : Agree 6 ρ q3 := P6.trans (g3.mono (by omega))
      have e21' : q3.i 21 = i := by rw [g3.i 21 (by omega), e21]
      refine ⟨fun h => absurd h32 h, fun _ => ?_⟩
      rw [P3.i 4 (by omega), v4, e21']
      refine ⟨note_pre _, fun q4 g4 ⟨F4, hp4, _, _⟩ => ?_⟩
      have hp4 : Value.agg (List.map (CV.ev q4) (ckCVs 33 (u8s 16))).toArray = Value.agg (bys (noteL (gNote n i))).toArray := hp4
      have hp4 : List.map (CV.ev q4) (ckCVs 33 (List.replicate 16 (Ck.int IntKind.u8))) = bys (noteL (gNote n i)) := by
        have h : List.map (CV.ev q4) (ckCVs 33 (u8s 16)) = bys (noteL (gNote n i)) := by simpa using hp4
        exact h
      have P4 : Agree 6 ρ q4 := P3.trans (g4.mono (by omega))
      have e21b : q4.i 21 = i := by rw [g4.i 21 (by omega), e21']
      rw [hp4, P4.i 0 (by omega), v0, P4.i 1 (by omega), v1, e21b, P4.h 5 (by omega), w5, hc', sl_parts hsl, g4.i 30 (by omega), g4.i 31 (by omega), g4.h 30 (by omega), g4.h 31 (by omega)]
      obtain ⟨a1, a2, a3, a4⟩ := hH.append (b := r) (nt' := noteL (gNote n i)) (by omega) (by omega) rfl
      refine ⟨⟨_, u, r, noteL (gNote n i), _, _, _, _, _, _, D, rfl, rfl, rfl, hl3, hD3, hrd, by omega, rfl, by show (0 : Int) ≤ (i : Int); omega⟩, fun q5 g5 ⟨F5, hp5, _, _⟩ => ?_⟩
      obtain ⟨H', HD', hK, hD5, hL5, hv5⟩ := append_post hl3 hD3 hrd hp5
      have h49 : q5.i 49 = 0 := by
        have e := hv5.trans (congrArg (Value.int .i64) a1)
        simpa using e
      refine ⟨fun h => absurd h49 h, fun _ => ?_⟩
      have P5 : Agree 6 ρ q5 := P4.trans (g5.mono (by omega))
      have e21c : q5.i 21 = i := by rw [g5.i 21 (by omega), e21b]
      have htx : (if valP (some u) 0 = -1 then (⟨#[]⟩ : ByteArray) else bytesOf (cellInts R (valP (some u) 0).toNat (valP (some u) 1).toNat (valP (some u) 2).toNat)) = bytesOf r := htx
      have sE : sev q5 (((E.hP 5 (E.var 0) ((E.var 1).add (E.var 21)) 0 0).eq (E.lit (-1))).ite (E.slit ⟨#[]⟩) (E.sof 5 (E.hP 5 (E.var 0) ((E.var 1).add (E.var 21)) 0 0) (E.hP 5 (E.var 0) ((E.var 1).add (E.var 21)) 0 1) (E.hP 5 (E.var 0) ((E.var 1).add (E.var 21)) 0 2))) = bytesOf r := by
        simp only [iev_lit, iev_var, iev_add, iev_sub, iev_mul, iev_wrap, iev_ite, iev_hI, iev_hP, iev_hmlen, sev_ite, sev_slit, sev_sof, sev_svar, bT_tt, bT_ff, bT_bvar, bT_not, bT_and, bT_or, bT_ite, bT_lt, bT_le, bT_eq, bT_beq, bT_seq, bT_hB, bT_his, bT_hby, bT_hism, bT_hks, Nat.add_zero]
        rw [P5.i 0 (by omega), v0, P5.i 1 (by omega), v1, e21c, P5.h 5 (by omega), w5, hc']
        exact htx
      have e20 : q5.s 20 = bytesOf (rows.take i).flatten := by rw [g5.s 20 (by omega), g4.s 20 (by omega), g3.s 20 (by omega), es]
      rw [P5.i 0 (by omega), v0, P5.i 1 (by omega), v1, e21c, P5.h 5 (by omega), w5, hc', htx, e20, bytesOf_size, bytesOf_size]
      have hK : q5.h 49 = H' ∧ q5.h 50 = HD' := by
        have h1 : [q5.h 49, q5.h 50] = [H', HD'] := hK
        simpa using h1
      have m21 : (assign q5 [⟨20, 2, .str ((E.svar 20).scat (((E.hP 5 (E.var 0) ((E.var 1).add (E.var 21)) 0 0).eq (E.lit (-1))).ite (E.slit ⟨#[]⟩) (E.sof 5 (E.hP 5 (E.var 0) ((E.var 1).add (E.var 21)) 0 0) (E.hP 5 (E.var 0) ((E.var 1).add (E.var 21)) 0 1) (E.hP 5 (E.var 0) ((E.var 1).add (E.var 21)) 0 2))))⟩, ⟨21, 0, .int .i64 (.wrap .i64 (.add (.var 21) (.lit 1)))⟩] [(22, some 50)]).i 21 = i + 1 := by
        show IntKind.i64.wrap (q5.i 21 + 1) = _
        rw [e21c, wrap_i64 (by omega) (by omega)]
      refine ⟨hcb, by omega, ⟨i + 1, (appendR D ⟨(2 : Nat), 64 * (30 - 2), i, (rows.take i).flatten.length, nt, false⟩ (rows.take i).flatten r (noteL (gNote n i))).D, noteL (gNote n i), by rw [m21]; omega, by omega, ?_, ?_, ?_, Or.inr ?_, ?_⟩, by rw [m21]; omega⟩
      · show q5.s 20 ++ sev q5 _ = _
        rw [e20, sE, hfl', bytesOf_app]
      · show DiskAt (q5.h 50) (.pointer (slP (q5.i 7) (q5.i 8))) _
        rw [hK.2, g5.i 7 (by omega), g4.i 7 (by omega), g3.i 7 (by omega), g5.i 8 (by omega), g4.i 8 (by omega), g3.i 8 (by omega)]
        exact hD5
      · rw [hfl']; exact a2
      · rw [show ((i + 1 : Nat) : Int) - 1 = i by omega]
      · rw [hfl', List.length_append]; omega
    · have hir : i = rows.length := by omega
      refine ⟨⟨_, 2, 30, _, D, rfl, rfl, hD⟩, fun q3 g3 ⟨F3, hp3, hF3, _⟩ => ?_⟩
      have hF3 := hF3 trivial
      obtain ⟨pv, hD3, hv3, hl3, _⟩ := open_post hD hp3
      have hl3 := hl3 hoe
      rw [hoe] at hv3
      rw [hoL, hoB, ← hF3] at hl3
      simp only [Value.tuple.injEq, Array.mk.injEq, List.cons.injEq, Value.int.injEq, true_and, and_true] at hv3
      obtain ⟨rfl, h32⟩ := hv3
      refine ⟨fun _ => ⟨bytes_pre hl3 (by omega), fun q4 g4 ⟨F4, hp4, hF4, hn4⟩ => ?_⟩, fun h => absurd h32 h⟩
      have hF4 := hF4 trivial
      have hO := bytes_post hl3 hp4
      obtain ⟨⟨n33, n34, n35, n36⟩, _⟩ := hn4
      rw [← hF4] at hO
      obtain ⟨t1, t2⟩ := OwB.textE hO n33 n34 n35
      have t2 : (if q4.i 33 = -1 then (⟨#[]⟩ : ByteArray) else bytesOf (cellInts (q4.h 33) (q4.i 33).toNat (q4.i 34).toNat (q4.i 35).toNat)) = bytesOf (rows.take i).flatten := t2
      have e20 : q4.s 20 = bytesOf (rows.take i).flatten := by rw [g4.s 20 (by omega), g3.s 20 (by omega), es]
      rw [t2, e20, g4.i 30 (by omega), g4.i 31 (by omega), g4.h 31 (by omega)]
      refine ⟨t1, fun _ => ⟨serial_pre hl3, fun q5 g5 ⟨F5, hp5, _, _⟩ => ?_⟩, fun h => absurd rfl h⟩
      have h37 := serial_post hl3 hp5
      have h37 : q5.i 37 = i := by simpa using h37
      have P5 : Agree 6 ρ q5 := ((P6.trans (g3.mono (by omega))).trans (g4.mono (by omega))).trans (g5.mono (by omega))
      have wl : IntKind.u64.wrap (rows.length : Int) = rows.length := wrap_u64 (by omega) (by omega)
      rw [P5.i 2 (by omega), v2, wl, h37, hir]
      refine ⟨fun _ => ⟨fun hne => ?_, fun _ => yes q5 _ _ (bev_tt _)⟩, fun h => absurd rfl h⟩
      rw [g5.i 30 (by omega), g4.i 30 (by omega), g5.i 31 (by omega), g4.i 31 (by omega), g5.h 31 (by omega), g4.h 31 (by omega)]
      refine ⟨lnote_pre hl3, fun q6 g6 ⟨F6, hp6, _, _⟩ => ?_⟩
      have h6 : Value.agg (List.map (CV.ev q6) (ckCVs 38 (u8s 16))).toArray = Value.agg (bys nt).toArray := lnote_post hl3 hp6
      have h6 : List.map (CV.ev q6) (ckCVs 38 (u8s 16)) = bys nt := by simpa using h6
      have P7 : Agree 6 ρ q6 := P5.trans (g6.mono (by omega))
      rw [P7.i 4 (by omega), v4, P7.i 2 (by omega), v2]
      refine ⟨note_pre _, fun q7 g7 ⟨F7, hp7, _, _⟩ => yes q7 _ _ ?_⟩
      have wi : IntKind.i64.wrap ((rows.length : Int) - 1) = rows.length - 1 := wrap_i64 (by omega) (by omega)
      have hp7 : Value.agg (List.map (CV.ev q7) (ckCVs 54 (u8s 16))).toArray = Value.agg (bys (noteL (IntKind.u8.wrap (n + IntKind.u8.wrap (IntKind.i64.wrap ((rows.length : Int) - 1)))))).toArray := hp7
      have h7 : List.map (CV.ev q7) (ckCVs 54 (u8s 16)) = bys (noteL (IntKind.u8.wrap (n + IntKind.u8.wrap (IntKind.i64.wrap ((rows.length : Int) - 1))))) := by simpa using hp7
      rw [wi] at h7
      have hnt : nt = noteL (gNote n (i - 1)) := by
        rcases hnt with h | h
        · exact absurd (by rw [← hir, h]; rfl) hne
        · exact h
      rw [hnt, hir] at h6
      have k6 := u8_get 16 38 _ h6
      have k7 := u8_get 16 54 _ h7
      have eqs : ∀ k, k < 16 → q7.i (38 + k) = q7.i (54 + k) := by
        intro k hk
        rw [g7.i (38 + k) (by omega), k6 k hk, k7 k hk]
        rfl
      simp only [bT_and, bT_eq, iev_var]
      exact ⟨eqs 0 (by omega), eqs 1 (by omega), eqs 2 (by omega), eqs 3 (by omega), eqs 4 (by omega), eqs 5 (by omega), eqs 6 (by omega), eqs 7 (by omega), eqs 8 (by omega), eqs 9 (by omega), eqs 10 (by omega), eqs 11 (by omega), eqs 12 (by omega), eqs 13 (by omega), eqs 14 (by omega), eqs 15 (by omega)⟩
end Go.Proofs.Ytnpepkjfeadbjaa
