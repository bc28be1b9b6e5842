/- Layer 7: the reference disk's Crash, as a contract. Condition: bytes of fate below 256. -/
import Derived.Test.YtdohcabnaihaoaaRfE
set_option linter.unusedSimpArgs false
set_option linter.unusedVariables false
set_option linter.constructorNameAsVariable false
namespace Go.Proofs.Ytdohcabnaihaoaa
open Go Go.Sx

def rtorn (M : RM) (fate : List Int) (j : Nat) : List Int := if M.is.getD j false = true then tornI (M.was.getD j []) (M.now.getD j []) (fateAt fate (cntB (M.is.take j))) else M.now.getD j []
def rtornW (M : RM) (fate : List Int) (j : Nat) : List Int := if M.is.getD j false = true then rtorn M fate j else M.was.getD j []
def nowC (M : RM) (fate : List Int) : List (List Int) := (List.range M.now.length).map (rtorn M fate)
def wasC (M : RM) (fate : List Int) : List (List Int) := (List.range M.now.length).map (rtornW M fate)
def crashM (M : RM) (fate : List Int) : RM := ⟨nowC M fate, wasC M fate, List.replicate M.now.length false, -1, false⟩
theorem nowC_len (M : RM) (fate : List Int) : (nowC M fate).length = M.now.length := by simp [nowC]
theorem wasC_len (M : RM) (fate : List Int) : (wasC M fate).length = M.now.length := by simp [wasC]
theorem nowC_get {M : RM} {fate : List Int} {k : Nat} (hk : k < M.now.length) : (nowC M fate)[k]? = some (rtorn M fate k) := by
  unfold nowC
  rw [List.getElem?_map, List.getElem?_range hk]; rfl
theorem wasC_get {M : RM} {fate : List Int} {k : Nat} (hk : k < M.now.length) : (wasC M fate)[k]? = some (rtornW M fate k) := by
  unfold wasC
  rw [List.getElem?_map, List.getElem?_range hk]; rfl
theorem getD_of {α : Type} {l : List α} {k : Nat} {x d : α} (h : l[k]? = some x) : l.getD k d = x := by
  rw [List.getD_eq_getElem?_getD, h]; rfl
theorem rtorn_len {M : RM} (h : M.ok) (fate : List Int) {k : Nat} (hk : k < M.now.length) : (rtorn M fate k).length = 64 := by
  unfold rtorn
  split
  · exact tornI_length _ _ _
  · rw [getD_of (List.getElem?_eq_getElem hk)]
    exact h.now _ (List.getElem_mem hk)
theorem rtornW_len {M : RM} (h : M.ok) (fate : List Int) {k : Nat} (hk : k < M.now.length) : (rtornW M fate k).length = 64 := by
  unfold rtornW
  split
  · exact rtorn_len h fate hk
  · have hk' : k < M.was.length := by rw [h.wl]; exact hk
    rw [getD_of (List.getElem?_eq_getElem hk')]
    exact h.was _ (List.getElem_mem hk')
theorem crashM_ok {M : RM} (h : M.ok) (fate : List Int) : (crashM M fate).ok := by
  refine ⟨fun r hr => ?_, fun r hr => ?_, ?_, ?_, ?_, Int.le_refl _, (by decide : (-1 : Int) ≤ 9223372036854775807)⟩
  · obtain ⟨k, hk, rfl⟩ := List.mem_map.1 hr
    exact rtorn_len h fate (List.mem_range.1 hk)
  · obtain ⟨k, hk, rfl⟩ := List.mem_map.1 hr
    exact rtornW_len h fate (List.mem_range.1 hk)
  · show (wasC M fate).length = (nowC M fate).length
    rw [nowC_len, wasC_len]
  · show (List.replicate _ _).length = (nowC M fate).length
    rw [nowC_len, List.length_replicate]
  · show (nowC M fate).length ≤ _
    rw [nowC_len]; exact h.n
theorem set_self {α : Type} {l : List α} {k : Nat} {x : α} (h : l[k]? = some x) : l.set k x = l := by
  obtain ⟨hk, e⟩ := List.getElem?_eq_some_iff.1 h
  rw [← e, List.set_getElem_self]
theorem mix_get {α : Type} {a b : List α} {k : Nat} (hl : a.length = b.length) (hk : k < a.length) : (a.take k ++ b.drop k)[k]? = b[k]? := by
  rw [List.getElem?_append_right (by rw [List.length_take]; omega), List.length_take, Nat.min_eq_left (by omega), Nat.sub_self, List.getElem?_drop, Nat.add_zero]
theorem mix_same {α : Type} {a b : List α} {k : Nat} {x : α} (hl : a.length = b.length) (ha : a[k]? = some x) (hb : b[k]? = some x) : a.take k ++ b.drop k = a.take (k + 1) ++ b.drop (k + 1) := by
  have hk := (List.getElem?_eq_some_iff.1 ha).1
  rw [← set_mix hl ha]
  have e := mix_get hl hk
  rw [hb] at e
  exact (set_self e).symm
def tornP (a b : List Int) (f : Int) (j : Nat) : List Int := (tornI a b f).take j ++ b.drop j
theorem tornI_get {a b : List Int} {f : Int} {j : Nat} (hj : j < 64) : (tornI a b f)[j]? = some (if stays f j then b.getD j 0 else a.getD j 0) := by
  unfold tornI
  rw [List.getElem?_map, List.getElem?_range hj]; rfl
theorem tornP_len {a b : List Int} {f : Int} {j : Nat} (hb : b.length = 64) (hj : j ≤ 64) : (tornP a b f j).length = 64 := by
  unfold tornP
  rw [List.length_append, List.length_take, List.length_drop, tornI_length, hb]; omega
theorem tornP_set {a b : List Int} {f : Int} {j : Nat} {w : Int} (ha : a.length = 64) (hb : b.length = 64) (hj : j < 64) (hs : stays f j = false) (hw : a[j]? = some w) : (tornP a b f j).set j w = tornP a b f (j + 1) := by
  refine set_mix (by rw [tornI_length, hb]) ?_
  rw [tornI_get hj, hs, if_neg (by simp), getD_of hw]
theorem tornP_same {a b : List Int} {f : Int} {j : Nat} (ha : a.length = 64) (hb : b.length = 64) (hj : j < 64) (hs : stays f j = true) : tornP a b f j = tornP a b f (j + 1) := by
  have hbj : b[j]? = some b[j] := List.getElem?_eq_getElem (by omega)
  refine mix_same (x := b[j]) (by rw [tornI_length, hb]) ?_ hbj
  rw [tornI_get hj, hs, if_pos rfl, getD_of hbj]
theorem tornP_zero (a b : List Int) (f : Int) : tornP a b f 0 = b := by simp [tornP]
theorem tornP_all {a b : List Int} {f : Int} (hb : b.length = 64) : tornP a b f 64 = tornI a b f := by
  unfold tornP
  rw [List.take_of_length_le (by rw [tornI_length]; omega), List.drop_eq_nil_of_le (by omega), List.append_nil]
def rcrashS : Sx.Spec where
  fn := 31
  own := [.arg 0]
  rd := [1]
  res := []
  pre := fun xs Hs Rs => ∃ p u bs H R M, xs = [p, u] ∧ Hs = [H] ∧ Rs = [R] ∧ RefAt H p M ∧ RdW R u bs ∧ ∀ b ∈ bs, 0 ≤ b ∧ b < 256
  post := fun xs Hs Rs v Hs' F => ∃ p u bs H R M H', xs = [p, u] ∧ Hs = [H] ∧ Rs = [R] ∧ RefAt H p M ∧ RdW R u bs ∧ Hs' = [H'] ∧ RefAt H' p (crashM M bs)
def rcrashNd : Nd := .and (.inv 0 [⟨40, 0, .int .i64 (.lit 0)⟩, ⟨41, 0, .int .i64 (.lit 0)⟩] [(42, some 15), (43, some 16), (44, some 17)]) (.havoc 0 0 19 (.and (.e (.le (.lit 0) (.var 7))) (.and (.imp (.lt (.var 41) (.var 7)) (.and (.e (.le (.lit 0) (.var 11))) (.and (.e (.le (.lit 0) (.var 41))) (.and (.e (.his 44 (.var 11) (.var 41) 0 .bool)) (.and (.imp (.not (.hB 44 (.var 11) (.var 41) 0)) (.back 0 0 [⟨40, 0, .int .i64 (.var 40)⟩, ⟨41, 0, .int .i64 (.wrap .i64 (.add (.var 41) (.lit 1)))⟩] [(42, some 42), (43, some 43), (44, some 44)])) (.imp (.hB 44 (.var 11) (.var 41) 0) (.and (.and (.e (.le (.lit 0) (.var 3))) (.and (.imp (.lt (.lit 0) (.var 3)) (.and (.e (.le (.lit 0) (.var 1))) (.and (.e (.le (.lit 0) (.var 2))) (.and (.e (.le (.lit 0) (.rem (.var 40) (.var 3)))) (.and (.e (.lt (.rem (.var 40) (.var 3)) (.var 3))) (.and (.e (.his 18 (.var 1) (.add (.var 2) (.rem (.var 40) (.var 3))) 0 (.int .u8))) (.inv 1 [⟨50, 0, .int .i64 (.wrap .i64 (.hI 18 (.var 1) (.add (.var 2) (.rem (.var 40) (.var 3))) 0))⟩] []))))))) (.imp (.not (.lt (.lit 0) (.var 3))) (.inv 1 [⟨50, 0, .int .i64 (.lit 0)⟩] [])))) (.havoc 1 1 45 (.and (.inv 2 [⟨60, 0, .int .i64 (.lit 0)⟩] [(61, some 42)]) (.havoc 1 2 51 (.and (.imp (.lt (.var 60) (.lit 64)) (.and (.imp (.lt (.var 50) (.lit 128)) (.and (.imp (.not (.lt (.var 60) (.var 50))) (.and (.e (.le (.lit 0) (.var 6))) (.and (.e (.his 61 (.var 6) (.var 41) 0 .slice)) (.and (.e (.le (.lit 0) (.var 9))) (.and (.e (.his 43 (.var 9) (.var 41) 0 .slice)) (.and (.e (.le (.lit 0) (.hP 43 (.var 9) (.var 41) 0 0))) (.and (.e (.le (.lit 0) (.hP 43 (.var 9) (.var 41) 0 1))) (.and (.e (.le (.lit 0) (.var 60))) (.and (.e (.lt (.var 60) (.hP 43 (.var 9) (.var 41) 0 2))) (.and (.e (.his 43 (.hP 43 (.var 9) (.var 41) 0 0) (.add (.hP 43 (.var 9) (.var 41) 0 1) (.var 60)) 0 (.int .u8))) (.and (.e (.le (.lit 0) (.hP 61 (.var 6) (.var 41) 0 0))) (.and (.e (.le (.lit 0) (.hP 61 (.var 6) (.var 41) 0 1))) (.and (.e (.lt (.var 60) (.hP 61 (.var 6) (.var 41) 0 2))) (.and (.pre (.put 62 61 (.hP 61 (.var 6) (.var 41) 0 0) (.add (.hP 61 (.var 6) (.var 41) 0 1) (.var 60)) [.int .u8 (.hI 43 (.hP 43 (.var 9) (.var 41) 0 0) (.add (.hP 43 (.var 9) (.var 41) 0 1) (.var 60)) 0)])) (.ext (.put 62 61 (.hP 61 (.var 6) (.var 41) 0 0) (.add (.hP 61 (.var 6) (.var 41) 0 1) (.var 60)) [.int .u8 (.hI 43 (.hP 43 (.var 9) (.var 41) 0 0) (.add (.hP 43 (.var 9) (.var 41) 0 1) (.var 60)) 0)]) (.back 1 2 [⟨60, 0, .int .i64 (.wrap .i64 (.add (.var 60) (.lit 1)))⟩] [(61, some 62)])))))))))))))))) (.imp (.lt (.var 60) (.var 50)) (.back 1 2 [⟨60, 0, .int .i64 (.wrap .i64 (.add (.var 60) (.lit 1)))⟩] [(61, some 61)])))) (.imp (.not (.lt (.var 50) (.lit 128))) (.and (.imp (.not (.le (.wrap .i64 (.sub (.lit 64) (.var 60))) (.wrap .i64 (.sub (.var 50) (.lit 128))))) (.and (.e (.le (.lit 0) (.var 6))) (.and (.e (.his 61 (.var 6) (.var 41) 0 .slice)) (.and (.e (.le (.lit 0) (.var 9))) (.and (.e (.his 43 (.var 9) (.var 41) 0 .slice)) (.and (.e (.le (.lit 0) (.hP 43 (.var 9) (.var 41) 0 0))) (.and (.e (.le (.lit 0) (.hP 43 (.var 9) (.var 41) 0 1))) (.and (.e (.le (.lit 0) (.var 60))) (.and (.e (.lt (.var 60) (.hP 43 (.var 9) (.var 41) 0 2))) (.and (.e (.his 43 (.hP 43 (.var 9) (.var 41) 0 0) (.add (.hP 43 (.var 9) (.var 41) 0 1) (.var 60)) 0 (.int .u8))) (.and (.e (.le (.lit 0) (.hP 61 (.var 6) (.var 41) 0 0))) (.and (.e (.le (.lit 0) (.hP 61 (.var 6) (.var 41) 0 1))) (.and (.e (.lt (.var 60) (.hP 61 (.var 6) (.var 41) 0 2))) (.and (.pre (.put 62 61 (.hP 61 (.var 6) (.var 41) 0 0) (.add (.hP 61 (.var 6) (.var 41) 0 1) (.var 60)) [.int .u8 (.hI 43 (.hP 43 (.var 9) (.var 41) 0 0) (.add (.hP 43 (.var 9) (.var 41) 0 1) (.var 60)) 0)])) (.ext (.put 62 61 (.hP 61 (.var 6) (.var 41) 0 0) (.add (.hP 61 (.var 6) (.var 41) 0 1) (.var 60)) [.int .u8 (.hI 43 (.hP 43 (.var 9) (.var 41) 0 0) (.add (.hP 43 (.var 9) (.var 41) 0 1) (.var 60)) 0)]) (.back 1 2 [⟨60, 0, .int .i64 (.wrap .i64 (.add (.var 60) (.lit 1)))⟩] [(61, some 62)])))))))))))))))) (.imp (.le (.wrap .i64 (.sub (.lit 64) (.var 60))) (.wrap .i64 (.sub (.var 50) (.lit 128)))) (.back 1 2 [⟨60, 0, .int .i64 (.wrap .i64 (.add (.var 60) (.lit 1)))⟩] [(61, some 61)])))))) (.imp (.not (.lt (.var 60) (.lit 64))) (.and (.e (.le (.lit 0) (.var 6))) (.and (.e (.his 61 (.var 6) (.var 41) 0 .slice)) (.ext (.alloc 62) (.and (.pre (.app 63 5 1 1 (.sl (.var 62) (.lit 0) (.lit 0) (.lit 0)) (.lit 0) (.blk 62 [] 5) (.seg 61 (.hP 61 (.var 6) (.var 41) 0 0) (.hP 61 (.var 6) (.var 41) 0 1) (.hP 61 (.var 6) (.var 41) 0 2)))) (.ext (.app 63 5 1 1 (.sl (.var 62) (.lit 0) (.lit 0) (.lit 0)) (.lit 0) (.blk 62 [] 5) (.seg 61 (.hP 61 (.var 6) (.var 41) 0 0) (.hP 61 (.var 6) (.var 41) 0 1) (.hP 61 (.var 6) (.var 41) 0 2))) (.and (.e (.le (.lit 0) (.var 9))) (.ext (.mrg 65 (.hp 43 [] [.var 9] []) (.hp 63 [] [.var 63, .var 62] [])) (.and (.pre (.put 66 65 (.var 9) (.var 41) [.sl (.var 63) (.lit 0) (.hP 61 (.var 6) (.var 41) 0 2) (.var 64)])) (.ext (.put 66 65 (.var 9) (.var 41) [.sl (.var 63) (.lit 0) (.hP 61 (.var 6) (.var 41) 0 2) (.var 64)]) (.and (.pre (.put 67 44 (.var 11) (.var 41) [.bool .ff])) (.ext (.put 67 44 (.var 11) (.var 41) [.bool .ff]) (.back 0 0 [⟨40, 0, .int .i64 (.wrap .i64 (.add (.var 40) (.lit 1)))⟩, ⟨41, 0, .int .i64 (.wrap .i64 (.add (.var 41) (.lit 1)))⟩] [(42, some 61), (43, some 66), (44, some 67)])))))))))))))))))))))))) (.imp (.not (.lt (.var 41) (.var 7))) (.post [.blk 0 [.sl (.var 6) (.lit 0) (.var 7) (.var 8), .sl (.var 9) (.lit 0) (.var 7) (.var 10), .sl (.var 11) (.lit 0) (.var 7) (.var 12), .int .i64 (.lit (-1)), .bool .ff] 66, .hp 42 [] [.var 6] [], .hp 43 [] [.var 9] [], .hp 44 [] [.var 11] [], .ro 18 [.var 1] false] (.tup []))))))
def rcrashW : Walk Try.prog [] rcrashS.fn where
  Λ := fun p => if eqN p [31, 1, 0, 1, 0] then some ⟨0, [(4, TI .i64 (.var 40)), (5, TI .i64 (.var 41))], [(1, .hp 42 [] [.var 6] []), (2, .hp 43 [] [.var 9] []), (3, .hp 44 [] [.var 11] [])], 45⟩
    else if cutAt p [31, 1, 0, 1, 0, 0, 1, 0, 0, 1, 1, 0] then some ⟨1, [(6, TI .i64 (.var 50))], [], 51⟩
    else if eqN p [31, 1, 0, 1, 0, 0, 1, 0, 0, 1, 1, 1, 1, 0, 1, 0] then some ⟨2, [(7, TI .i64 (.var 60))], [(1, .hp 61 [] [.var 6] [])], 62⟩ else none
  args := [TP (.var 0) (.lit 0), .sv (.one (.sl (.var 1) (.var 2) (.var 3) (.var 4)))]
  mem := rMem ++ [.ro 18 [.var 1] false]
  nv := 19
  nd := rcrashNd
  ok := by kernel_rfl
def mixN (M : RM) (fate : List Int) (k : Nat) : List (List Int) := (nowC M fate).take k ++ M.now.drop k
def mixW (M : RM) (fate : List Int) (k : Nat) : List (List Int) := (wasC M fate).take k ++ M.was.drop k
def rcrashInv (M : RM) (fate : List Int) (n : Nat) (x1 c1 x2 c2 x3 c3 : Int) : Nat → Env → Prop
  | 0, q => ∃ k : Nat, q.i 41 = k ∧ k ≤ n ∧ q.i 40 = cntB (M.is.take k) ∧ RowsO (q.h 42) (sv0 x1 n c1) (mixN M fate k) ∧ RowsO (q.h 43) (sv0 x2 n c2) (mixW M fate k) ∧ OwnsH (q.h 44) 4 1 (sv0 x3 n c3) n (((List.replicate n false).take k ++ M.is.drop k).map Value.bool)
  | 1, q => q.i 50 = fateAt fate (q.i 40).toNat
  | _, q => ∃ j : Nat, q.i 60 = j ∧ j ≤ 64 ∧ RowsO (q.h 61) (sv0 x1 n c1) ((mixN M fate (q.i 41).toNat).set (q.i 41).toNat (tornP (M.was.getD (q.i 41).toNat []) (M.now.getD (q.i 41).toNat []) (q.i 50) j))
set_option maxHeartbeats 1000000 in
theorem rcrashS_ok : rcrashS.OK Try.prog := by
  refine Spec.of_fn (Γ := []) (fun _ h => by cases h) ?_
  rintro xs Hs Rs hl1 hl2 ⟨p, u, bs, H, R, M, rfl, rfl, rfl, ⟨a, n, x1, c1, x2, c2, x3, c3, A, B, C, rfl, h⟩, hRd, hby⟩
  obtain ⟨x, y, cp, rfl, hy, hR⟩ := id hRd
  refine ⟨rcrashW, rEnv a n x1 c1 x2 c2 x3 c3 A B C M [x, y, bs.length, cp, 0] R, rcrashInv M bs n x1 c1 x2 c2 x3 c3, fun j q => if j = 0 then ((n : Int) - q.i 41).toNat else (64 - q.i 60).toNat, ?_, rEntry2 h _ rfl _ _, (fun _ h => nomatch h), ?_⟩
  · show [Value.pointer (slP (a : Int) 0), Value.slice (slP x y) ((bs.length : Int)).toNat ((cp : Int)).toNat] = _
    rw [dArg, Int.toNat_natCast, Int.toNat_natCast]
  · show Nd.holds _ _ _ rcrashNd
    generalize hρ : rEnv a n x1 c1 x2 c2 x3 c3 A B C M [x, y, bs.length, cp, 0] R = ρ
    have v1 : ρ.i 1 = x := by rw [← hρ]; rfl
    have v2 : ρ.i 2 = y := by rw [← hρ]; rfl
    have v3 : ρ.i 3 = bs.length := by rw [← hρ]; rfl
    have v6 : ρ.i 6 = x1 := by rw [← hρ]; rfl
    have v7 : ρ.i 7 = n := by rw [← hρ]; rfl
    have v9 : ρ.i 9 = x2 := by rw [← hρ]; rfl
    have v11 : ρ.i 11 = x3 := by rw [← hρ]; rfl
    have w15 : ρ.h 15 = A := by rw [← hρ]; rfl
    have w16 : ρ.h 16 = B := by rw [← hρ]; rfl
    have w17 : ρ.h 17 = C := by rw [← hρ]; rfl
    have w18 : ρ.h 18 = R := by rw [← hρ]; rfl
    have hn := h.len
    have hn2 := h.ok.n
    have hil := h.ok.il
    have hwl := h.ok.wl
    unfold rcrashNd
    simp only [Nd.holds, X.pre, X.rel, X.n, Src.ok, Src.len, Src.vals, true_and, and_true, if_true, Nat.mul_one, Nat.add_zero, Nat.reduceAdd, List.length_cons, List.length_nil, bT_tt, bT_ff, bT_bvar, bT_not, bT_and, bT_or, bT_ite, bT_lt, bT_le, bT_eq, bT_beq, bT_seq, bT_hB, bT_his, bT_hby, bT_hism, bT_hks, iev_lit, iev_var, iev_add, iev_sub, iev_mul, iev_wrap, iev_ite, iev_hI, iev_hP, iev_hmlen, sev_ite, sev_slit, sev_sof, sev_svar, TV.ev, SV.ev, CV.ev, List.map_cons, List.map_nil, Res.hl, iev_rem]
    refine ⟨⟨0, rfl, Nat.zero_le _, rfl, ?_, ?_, ?_⟩, fun q g ⟨k, e41, hk, e40, hN, hW, hI⟩ => ?_⟩
    · show RowsO (ρ.h 15) _ (mixN M bs 0)
      rw [w15]; unfold mixN; simpa using h.now
    · show RowsO (ρ.h 16) _ (mixW M bs 0)
      rw [w16]; unfold mixW; simpa using h.was
    · show OwnsH (ρ.h 17) _ _ _ _ _
      rw [w17]; simpa using h.is
    have lN : (mixN M bs k).length = n := by unfold mixN; rw [mix_len (nowC_len M bs) (by rw [nowC_len]; omega), nowC_len, hn]
    have lW : (mixW M bs k).length = n := by unfold mixW; rw [mix_len (by rw [wasC_len, hwl]) (by rw [wasC_len]; omega), wasC_len, hn]
    have hcl := cntB_le (M.is.take k)
    rw [List.length_take] at hcl
    rw [g.i 7 (by omega), v7, g.i 11 (by omega), v11, e41]
    refine ⟨by omega, fun hlt => ?_, fun hge hd => ?_⟩
    · have hkn : k < M.now.length := by omega
      obtain ⟨h0x3, b, hb, hc⟩ := is_at (x := x3) hI h.r3.1 (k := k) (by omega)
      rw [mix_get (by rw [List.length_replicate]; omega) (by rw [List.length_replicate]; omega)] at hb
      rw [Int.toNat_natCast, hc]
      have htk : M.is.take (k + 1) = M.is.take k ++ [b] := by rw [List.take_add_one, hb]; rfl
      have hbD : M.is.getD k false = b := getD_of hb
      obtain ⟨nk, hnk⟩ : ∃ r, M.now[k]? = some r := ⟨_, List.getElem?_eq_getElem hkn⟩
      obtain ⟨wk, hwk⟩ : ∃ r, M.was[k]? = some r := ⟨_, List.getElem?_eq_getElem (by omega)⟩
      have hnk64 : nk.length = 64 := h.ok.now nk (List.mem_of_getElem? hnk)
      have hwk64 : wk.length = 64 := h.ok.was wk (List.mem_of_getElem? hwk)
      refine ⟨h0x3, by omega, rfl, fun hbf => ?_, fun hbt => ⟨⟨by rw [g.i 3 (by omega), v3]; omega, fun hpos => ?_, fun hneg => ?_⟩, fun q1 g1 e50 => ?_⟩⟩
      · have hbf : b = false := Bool.eq_false_iff.2 hbf
        have m41 : IntKind.i64.wrap (q.i 41 + 1) = k + 1 := by rw [e41, wrap_i64 (by omega) (by omega)]
        have hrt : rtorn M bs k = nk := by unfold rtorn; rw [hbD, hbf, if_neg (by simp), getD_of hnk]
        have hrw : rtornW M bs k = wk := by unfold rtornW; rw [hbD, hbf, if_neg (by simp), getD_of hwk]
        refine ⟨⟨k + 1, ?_, by omega, ?_, ?_, ?_, ?_⟩, ?_⟩
        · show IntKind.i64.wrap (q.i 41 + 1) = _
          rw [m41]; omega
        · show q.i 40 = _
          rw [e40, htk, cntB_snoc, hbf]; rfl
        · show RowsO (q.h 42) _ (mixN M bs (k + 1))
          unfold mixN at hN ⊢
          rw [← mix_same (x := nk) (nowC_len M bs) (by rw [nowC_get hkn, hrt]) hnk]; exact hN
        · show RowsO (q.h 43) _ (mixW M bs (k + 1))
          unfold mixW at hW ⊢
          rw [← mix_same (x := wk) (by rw [wasC_len, hwl]) (by rw [wasC_get hkn, hrw]) hwk]; exact hW
        · show OwnsH (q.h 44) _ _ _ _ _
          rw [← mix_same (x := false) (by rw [List.length_replicate]; omega) (by rw [List.getElem?_replicate, if_pos (by omega)]) (by rw [hb, hbf])]; exact hI
        · show ((n : Int) - IntKind.i64.wrap (q.i 41 + 1)).toNat < _
          rw [m41]; omega
      · rw [g.i 3 (by omega), v3] at hpos
        have hne : bs ≠ [] := fun e => by rw [e] at hpos; exact absurd hpos (by decide)
        obtain ⟨hx0, hbytes⟩ : 0 ≤ x ∧ ∀ j z, bs[j]? = some z → R.cell x.toNat (y.toNat + j) = some (.int .u8 z) := by
          rcases hR with h | h
          · exact absurd h hne
          · exact h
        have hmod : cntB (M.is.take k) % bs.length < bs.length := Nat.mod_lt _ (by omega)
        have erem : (q.i 40).tmod (q.i 3) = ((cntB (M.is.take k) % bs.length : Nat) : Int) := by
          rw [e40, g.i 3 (by omega), v3]; rfl
        obtain ⟨z, hz⟩ : ∃ z, bs[cntB (M.is.take k) % bs.length]? = some z := ⟨_, List.getElem?_eq_getElem hmod⟩
        have hzr := hby z (List.mem_of_getElem? hz)
        have hcell : R.cell x.toNat (y + ((cntB (M.is.take k) % bs.length : Nat) : Int)).toNat = some (.int .u8 z) := by
          rw [← hbytes _ z hz]; congr 1; omega
        rw [g.i 1 (by omega), v1, g.i 2 (by omega), v2, erem, g.i 3 (by omega), v3, g.h 18 (by omega), w18, hcell]
        refine ⟨hx0, hy, by omega, by omega, rfl, ?_⟩
        have e1 : (assign q [⟨50, 0, .int .i64 (.wrap .i64 (.hI 18 (.var 1) (.add (.var 2) (.rem (.var 40) (.var 3))) 0))⟩] []).i 50 = z := by
          show IntKind.i64.wrap (valI ((q.h 18).cell (q.i 1).toNat ((q.i 2 + (q.i 40).tmod (q.i 3)).toNat + 0))) = _
          rw [Nat.add_zero, erem, g.h 18 (by omega), w18, g.i 1 (by omega), v1, g.i 2 (by omega), v2, hcell]
          show IntKind.i64.wrap z = z
          exact wrap_i64 (by omega) (by omega)
        show _ = fateAt bs (q.i 40).toNat
        rw [e1, e40, Int.toNat_natCast]
        unfold fateAt
        rw [if_neg hne, getD_of hz]
      · show (0 : Int) = fateAt bs (q.i 40).toNat
        rw [g.i 3 (by omega), v3] at hneg
        have hnil : bs = [] := List.length_eq_zero_iff.1 (by omega)
        unfold fateAt
        rw [if_pos hnil]
      have hbt : b = true := hbt
      have e50' : q1.i 50 = fateAt bs (cntB (M.is.take k)) := by
        have e50 : q1.i 50 = fateAt bs (q1.i 40).toNat := e50
        rw [e50, g1.i 40 (by omega), e40, Int.toNat_natCast]
      have hfr := fateAt_range hby (cntB (M.is.take k))
      generalize hf : fateAt bs (cntB (M.is.take k)) = f at *
      have e41q : q1.i 41 = k := by rw [g1.i 41 (by omega), e41]
      have hget : (mixN M bs k)[k]? = some nk := by unfold mixN; rw [mix_get (nowC_len M bs) (by rw [nowC_len]; omega)]; exact hnk
      refine ⟨⟨0, rfl, by omega, ?_⟩, fun q3 g3 ⟨j, e60, hj, hR2⟩ => ?_⟩
      · show RowsO (q1.h 42) _ ((mixN M bs (q1.i 41).toNat).set (q1.i 41).toNat (tornP (M.was.getD (q1.i 41).toNat []) (M.now.getD (q1.i 41).toNat []) (q1.i 50) 0))
        rw [g1.h 42 (by omega), e41q, Int.toNat_natCast, getD_of hnk, tornP_zero, set_self hget]
        exact hN
      have B3 : Agree 45 q q3 := g1.trans (g3.mono (by omega))
      have A3 : Agree 19 ρ q3 := g.trans (B3.mono (by omega))
      have f41' : q3.i 41 = k := by rw [B3.i 41 (by omega), e41]
      have f50 : q3.i 50 = f := by rw [g3.i 50 (by omega), e50']
      rw [f41', f50, Int.toNat_natCast, getD_of hnk, getD_of hwk] at hR2
      have hLk : ((mixN M bs k).set k (tornP wk nk f j))[k]? = some (tornP wk nk f j) := List.getElem?_set_self (by omega)
      have hLen : (tornP wk nk f j).length = 64 := tornP_len hnk64 hj
      have hNat := (RowsO.at (x := x1) (l := n) (c := c1) hR2 h.r1.1 (by omega)).2 k _ hLk
      have h0x1 := hNat.1
      have hWat := (RowsO.at (x := x2) (l := n) (c := c2) hW h.r2.1 (by omega)).2 k wk (by unfold mixW; rw [mix_get (by rw [wasC_len, hwl]) (by rw [wasC_len]; omega)]; exact hwk)
      have h0x2 := hWat.1
      have p41 : (q3.i 41).toNat = k := by rw [f41']; omega
      rw [e60, f50, A3.i 6 (by omega), v6, A3.i 9 (by omega), v9, p41, B3.h 43 (by omega)]
      refine ⟨fun hlt2 => ⟨fun h128 => ⟨fun hs => ?_, fun hs => ?_⟩, fun h128 => ⟨fun hs => ?_, fun hs => ?_⟩⟩, fun hge2 => ?_⟩
      · have hst : stays f j = false := by
          unfold stays; rw [if_pos h128]; simp; omega
        obtain ⟨w, hw⟩ : ∃ w, wk[j]? = some w := ⟨_, List.getElem?_eq_getElem (by omega)⟩
        obtain ⟨_, b1, d1, hc1, hw1, hput⟩ := RowsO.byte (x := x1) (l := n) (c := c1) hR2 h.r1.1 hLk (j := j) (by omega) w
        obtain ⟨h0x2, b2, d2, hc2, hbytes⟩ := hWat
        have hcw := hbytes j w hw
        rw [hc1, hc2]
        have u0 : valP (some (Value.slice (some ⟨b2, 0, none⟩) wk.length d2)) 0 = b2 := rfl
        have u1 : valP (some (Value.slice (some ⟨b2, 0, none⟩) wk.length d2)) 1 = 0 := rfl
        have u2 : valP (some (Value.slice (some ⟨b2, 0, none⟩) wk.length d2)) 2 = wk.length := rfl
        have t0 : valP (some (Value.slice (some ⟨b1, 0, none⟩) (tornP wk nk f j).length d1)) 0 = b1 := rfl
        have t1 : valP (some (Value.slice (some ⟨b1, 0, none⟩) (tornP wk nk f j).length d1)) 1 = 0 := rfl
        have t2 : valP (some (Value.slice (some ⟨b1, 0, none⟩) (tornP wk nk f j).length d1)) 2 = (tornP wk nk f j).length := rfl
        have ej : ((0 : Int) + (j : Int)).toNat = j := by omega
        rw [u0, u1, u2, t0, t1, t2, ej, Int.toNat_natCast, Int.toNat_natCast, hcw]
        refine ⟨h0x1, rfl, h0x2, rfl, by omega, Int.le_refl _, by omega, by omega, rfl, by omega, Int.le_refl _, by omega, ⟨by omega, by omega, hw1⟩, fun q4 g4 h62 => ?_⟩
        have m60 : IntKind.i64.wrap (q4.i 60 + 1) = j + 1 := by rw [g4.i 60 (by omega), e60, wrap_i64 (by omega) (by omega)]
        refine ⟨⟨j + 1, ?_, by omega, ?_⟩, ?_⟩
        · show IntKind.i64.wrap (q4.i 60 + 1) = _
          rw [m60]; omega
        · show RowsO (q4.h 62) _ ((mixN M bs (q4.i 41).toNat).set (q4.i 41).toNat (tornP (M.was.getD (q4.i 41).toNat []) (M.now.getD (q4.i 41).toNat []) (q4.i 50) (j + 1)))
          have f41 : q4.i 41 = k := by rw [g4.i 41 (by omega), B3.i 41 (by omega), e41]
          have f504 : q4.i 50 = f := by rw [g4.i 50 (by omega), f50]
          rw [h62, f41, f504, Int.toNat_natCast, getD_of hnk, getD_of hwk, ← tornP_set hwk64 hnk64 (by omega) hst hw]
          rw [List.set_set] at hput
          exact hput
        · rw [if_neg (by decide), if_neg (by decide)]
          show ((64 : Int) - IntKind.i64.wrap (q4.i 60 + 1)).toNat < _
          rw [m60]; omega
      · have hst : stays f j = true := by
          unfold stays; rw [if_pos h128]; simp; omega
        have m60 : IntKind.i64.wrap (q3.i 60 + 1) = j + 1 := by rw [e60, wrap_i64 (by omega) (by omega)]
        refine ⟨⟨j + 1, ?_, by omega, ?_⟩, ?_⟩
        · show IntKind.i64.wrap (q3.i 60 + 1) = _
          rw [m60]; omega
        · show RowsO (q3.h 61) _ ((mixN M bs (q3.i 41).toNat).set (q3.i 41).toNat (tornP (M.was.getD (q3.i 41).toNat []) (M.now.getD (q3.i 41).toNat []) (q3.i 50) (j + 1)))
          rw [f41', f50, Int.toNat_natCast, getD_of hnk, getD_of hwk, ← tornP_same hwk64 hnk64 (by omega) hst]
          exact hR2
        · rw [if_neg (by decide), if_neg (by decide)]
          show ((64 : Int) - IntKind.i64.wrap (q3.i 60 + 1)).toNat < _
          rw [m60]; omega
      · rw [wrap_i64 (by omega) (by omega), wrap_i64 (by omega) (by omega)] at hs
        have hst : stays f j = false := by
          unfold stays; rw [if_neg h128]; simp; omega
        obtain ⟨w, hw⟩ : ∃ w, wk[j]? = some w := ⟨_, List.getElem?_eq_getElem (by omega)⟩
        obtain ⟨_, b1, d1, hc1, hw1, hput⟩ := RowsO.byte (x := x1) (l := n) (c := c1) hR2 h.r1.1 hLk (j := j) (by omega) w
        obtain ⟨h0x2, b2, d2, hc2, hbytes⟩ := hWat
        have hcw := hbytes j w hw
        rw [hc1, hc2]
        have u0 : valP (some (Value.slice (some ⟨b2, 0, none⟩) wk.length d2)) 0 = b2 := rfl
        have u1 : valP (some (Value.slice (some ⟨b2, 0, none⟩) wk.length d2)) 1 = 0 := rfl
        have u2 : valP (some (Value.slice (some ⟨b2, 0, none⟩) wk.length d2)) 2 = wk.length := rfl
        have t0 : valP (some (Value.slice (some ⟨b1, 0, none⟩) (tornP wk nk f j).length d1)) 0 = b1 := rfl
        have t1 : valP (some (Value.slice (some ⟨b1, 0, none⟩) (tornP wk nk f j).length d1)) 1 = 0 := rfl
        have t2 : valP (some (Value.slice (some ⟨b1, 0, none⟩) (tornP wk nk f j).length d1)) 2 = (tornP wk nk f j).length := rfl
        have ej : ((0 : Int) + (j : Int)).toNat = j := by omega
        rw [u0, u1, u2, t0, t1, t2, ej, Int.toNat_natCast, Int.toNat_natCast, hcw]
        refine ⟨h0x1, rfl, h0x2, rfl, by omega, Int.le_refl _, by omega, by omega, rfl, by omega, Int.le_refl _, by omega, ⟨by omega, by omega, hw1⟩, fun q4 g4 h62 => ?_⟩
        have m60 : IntKind.i64.wrap (q4.i 60 + 1) = j + 1 := by rw [g4.i 60 (by omega), e60, wrap_i64 (by omega) (by omega)]
        refine ⟨⟨j + 1, ?_, by omega, ?_⟩, ?_⟩
        · show IntKind.i64.wrap (q4.i 60 + 1) = _
          rw [m60]; omega
        · show RowsO (q4.h 62) _ ((mixN M bs (q4.i 41).toNat).set (q4.i 41).toNat (tornP (M.was.getD (q4.i 41).toNat []) (M.now.getD (q4.i 41).toNat []) (q4.i 50) (j + 1)))
          have f41 : q4.i 41 = k := by rw [g4.i 41 (by omega), B3.i 41 (by omega), e41]
          have f504 : q4.i 50 = f := by rw [g4.i 50 (by omega), f50]
          rw [h62, f41, f504, Int.toNat_natCast, getD_of hnk, getD_of hwk, ← tornP_set hwk64 hnk64 (by omega) hst hw]
          rw [List.set_set] at hput
          exact hput
        · rw [if_neg (by decide), if_neg (by decide)]
          show ((64 : Int) - IntKind.i64.wrap (q4.i 60 + 1)).toNat < _
          rw [m60]; omega
      · rw [wrap_i64 (by omega) (by omega), wrap_i64 (by omega) (by omega)] at hs
        have hst : stays f j = true := by
          unfold stays; rw [if_neg h128]; simp; omega
        have m60 : IntKind.i64.wrap (q3.i 60 + 1) = j + 1 := by rw [e60, wrap_i64 (by omega) (by omega)]
        refine ⟨⟨j + 1, ?_, by omega, ?_⟩, ?_⟩
        · show IntKind.i64.wrap (q3.i 60 + 1) = _
          rw [m60]; omega
        · show RowsO (q3.h 61) _ ((mixN M bs (q3.i 41).toNat).set (q3.i 41).toNat (tornP (M.was.getD (q3.i 41).toNat []) (M.now.getD (q3.i 41).toNat []) (q3.i 50) (j + 1)))
          rw [f41', f50, Int.toNat_natCast, getD_of hnk, getD_of hwk, ← tornP_same hwk64 hnk64 (by omega) hst]
          exact hR2
        · rw [if_neg (by decide), if_neg (by decide)]
          show ((64 : Int) - IntKind.i64.wrap (q3.i 60 + 1)).toNat < _
          rw [m60]; omega
      · have ej : j = 64 := by omega
        subst ej
        obtain ⟨_, b1, d1, hc1, hbytes⟩ := hNat
        rw [hc1]
        refine ⟨h0x1, rfl, fun q4 g4 p62 => ?_⟩
        have B4 : Agree 45 q q4 := B3.trans (g4.mono (by omega))
        have A4 : Agree 19 ρ q4 := g.trans (B4.mono (by omega))
        have p414 : (q4.i 41).toNat = k := by rw [g4.i 41 (by omega)]; exact p41
        rw [g4.h 61 (by omega), A4.i 6 (by omega), v6, p414, hc1]
        have ho0 := own0 (Hl.one (q4.i 62).toNat (.cells #[] 5 (0, 0))) p62 rfl
        obtain ⟨hok, hseg⟩ := seg_of (R := q3.h 61) (x := b1) (y := 0) (l := ((tornP wk nk f 64).length : Int)) rfl (Int.le_refl _) (Or.inr ⟨by omega, fun j z hz => by have := hbytes j z hz; simpa using this⟩)
        have e0 : valP (some (Value.slice (some ⟨b1, 0, none⟩) (tornP wk nk f 64).length d1)) 0 = b1 := rfl
        have e1 : valP (some (Value.slice (some ⟨b1, 0, none⟩) (tornP wk nk f 64).length d1)) 1 = 0 := rfl
        have e2 : valP (some (Value.slice (some ⟨b1, 0, none⟩) (tornP wk nk f 64).length d1)) 2 = (tornP wk nk f 64).length := rfl
        rw [e0, e1, e2]
        refine ⟨⟨⟨_, ho0⟩, Int.le_refl _, by simpa using hok, by rw [hLen]; decide, by rw [hLen]; decide⟩, fun q5 g5 ⟨a1, a2, a3, _⟩ => ?_⟩
        have hx5 := a3 _ ho0
        rw [hseg, List.nil_append] at hx5
        have B5 : Agree 45 q q5 := B4.trans (g5.mono (by omega))
        have C5 : Agree 62 q3 q5 := g4.trans (g5.mono (by omega))
        have A5 : Agree 19 ρ q5 := A4.trans (g5.mono (by omega))
        have hrow : RowO (q5.h 63) none (.slice (slP (q5.i 63) 0) (((tornP wk nk f 64).length : Int)).toNat (q5.i 64).toNat) (tornP wk nk f 64) := by
          refine rowO_of ?_ (fun e => by rw [e] at hLen; cases hLen)
          rw [Int.toNat_natCast]
          simpa using hx5
        rw [A5.i 9 (by omega), v9]
        refine ⟨h0x2, fun q6 g6 ⟨h65, d65⟩ => ?_⟩
        have B6 : Agree 45 q q6 := B5.trans (g6.mono (by omega))
        have C6 : Agree 62 q3 q6 := C5.trans (g6.mono (by omega))
        have A6 : Agree 19 ρ q6 := A5.trans (g6.mono (by omega))
        rw [B5.h 43 (by omega)] at h65 d65
        obtain ⟨_, w1, hput⟩ := RowsO.put (x := x2) (l := n) (c := c2) hW h.r2.1 d65 hrow (i := k) (by omega)
        have p416 : (q6.i 41).toNat = k := by rw [C6.i 41 (by omega)]; exact p41
        have g416 : 0 ≤ q6.i 41 := by rw [C6.i 41 (by omega), f41']; omega
        rw [A6.i 9 (by omega), v9, p416, h65, C6.h 61 (by omega), A6.i 6 (by omega), v6, hc1, e2]
        have e63 : Value.slice (slP (q6.i 63) 0) (((tornP wk nk f 64).length : Int)).toNat (q6.i 64).toNat = .slice (slP (q5.i 63) 0) (((tornP wk nk f 64).length : Int)).toNat (q5.i 64).toNat := by
          rw [g6.i 63 (by omega), g6.i 64 (by omega)]
        rw [e63]
        refine ⟨⟨h0x2, g416, w1⟩, fun q7 g7 h66 => ?_⟩
        have C7 : Agree 62 q3 q7 := C6.trans (g7.mono (by omega))
        have B7 : Agree 45 q q7 := B6.trans (g7.mono (by omega))
        have A7 : Agree 19 ρ q7 := A6.trans (g7.mono (by omega))
        obtain ⟨_, w3, _, hput3⟩ := OwnsH.put1 (x := x3) (l := n) (c := c3) hI h.r3.1 (i := k) (by omega) (.bool false)
        have p417 : (q7.i 41).toNat = k := by rw [C7.i 41 (by omega)]; exact p41
        have g417 : 0 ≤ q7.i 41 := by rw [C7.i 41 (by omega), f41']; omega
        rw [A7.i 11 (by omega), v11, p417, B7.h 44 (by omega)]
        refine ⟨⟨h0x3, g417, w3⟩, fun q8 g8 h67 => ?_⟩
        have C8 : Agree 62 q3 q8 := C7.trans (g8.mono (by omega))
        have B8 : Agree 45 q q8 := B7.trans (g8.mono (by omega))
        have m41 : IntKind.i64.wrap (q8.i 41 + 1) = k + 1 := by rw [C8.i 41 (by omega), f41', wrap_i64 (by omega) (by omega)]
        have hrt : rtorn M bs k = tornP wk nk f 64 := by
          unfold rtorn
          rw [hbD, hbt, if_pos rfl, getD_of hwk, getD_of hnk, hf, tornP_all hnk64]
        have hrw : rtornW M bs k = tornP wk nk f 64 := by unfold rtornW; rw [hbD, hbt, if_pos rfl, hrt]
        refine ⟨⟨k + 1, ?_, by omega, ?_, ?_, ?_, ?_⟩, ?_⟩
        · show IntKind.i64.wrap (q8.i 41 + 1) = _
          rw [m41]; omega
        · show IntKind.i64.wrap (q8.i 40 + 1) = _
          rw [B8.i 40 (by omega), e40, htk, cntB_snoc, hbt, if_pos rfl, wrap_i64 (by omega) (by omega)]; omega
        · show RowsO (q8.h 61) _ (mixN M bs (k + 1))
          have := set_mix (nowC_len M bs) (nowC_get (fate := bs) hkn)
          unfold mixN at hR2 ⊢
          rw [C8.h 61 (by omega), ← this, hrt]; exact hR2
        · show RowsO (q8.h 66) _ (mixW M bs (k + 1))
          have := set_mix (a := wasC M bs) (b := M.was) (by rw [wasC_len, hwl]) (wasC_get (fate := bs) hkn)
          unfold mixW at hput ⊢
          rw [g8.h 66 (by omega), h66, ← this, hrw]; exact hput
        · show OwnsH (q8.h 67) _ _ _ _ _
          rw [h67, ← set_mix (a := List.replicate n false) (x := false) (by rw [List.length_replicate]; omega) (by rw [List.getElem?_replicate, if_pos (by omega)]), map_set_bool]
          exact hput3
        · rw [if_neg (by decide), if_neg (by decide)]
          show ((n : Int) - IntKind.i64.wrap (q8.i 41 + 1)).toNat < _
          rw [m41]; omega
    · have ek : k = n := by omega
      have hN : RowsO (q.h 42) (sv0 x1 n c1) (nowC M bs) := by
        unfold mixN at hN
        rwa [ek, List.take_of_length_le (by rw [nowC_len]; omega), List.drop_eq_nil_of_le (by omega), List.append_nil] at hN
      have hW : RowsO (q.h 43) (sv0 x2 n c2) (wasC M bs) := by
        unfold mixW at hW
        rwa [ek, List.take_of_length_le (by rw [wasC_len]; omega), List.drop_eq_nil_of_le (by omega), List.append_nil] at hW
      rw [ek, List.take_of_length_le (by rw [List.length_replicate]; omega), List.drop_eq_nil_of_le (by omega), List.append_nil] at hI
      rw [← hρ] at g
      refine ⟨[[0, 1, 2, 3]], [], rfl, rfl, ⟨⟨fun _ => 0, fun _ => false, fun _ => .empty, fun _ => .tuple #[], fun _ => Hl.none⟩, rfl, trivial⟩, _, _, bs, H, R, M, _, rfl, rfl, rfl, ⟨a, n, x1, c1, x2, c2, x3, c3, A, B, C, rfl, h⟩, hRd, rfl, rOut h rfl g (crashM_ok h.ok bs) (nowC_len M bs) rfl rfl hN hW ?_ hd⟩
      show OwnsH (q.h 44) _ _ _ n ((List.replicate M.now.length false).map Value.bool)
      rw [hn]; exact hI
end Go.Proofs.Ytdohcabnaihaoaa
