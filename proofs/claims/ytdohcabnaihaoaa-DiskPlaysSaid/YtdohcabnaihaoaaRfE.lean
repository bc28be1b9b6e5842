/- Layer 7: the reference disk's Loose and Sync, as contracts. No condition. -/
import Derived.Test.YtdohcabnaihaoaaRfD
set_option linter.unusedSimpArgs false
set_option linter.unusedVariables false
set_option linter.constructorNameAsVariable false
namespace Go.Proofs.Ytdohcabnaihaoaa
open Go Go.Sx

def cntB (l : List Bool) : Nat := (l.filter fun b => b).length
theorem cntB_snoc (l : List Bool) (b : Bool) : cntB (l ++ [b]) = cntB l + if b = true then 1 else 0 := by
  unfold cntB
  rw [List.filter_append, List.length_append]
  cases b <;> rfl
theorem cntB_le (l : List Bool) : cntB l ≤ l.length := List.length_filter_le _ _
def rlooseS : Sx.Spec where
  fn := 32
  own := [.arg 0]
  rd := []
  res := [.one (.int .i64)]
  pre := fun xs Hs Rs => ∃ p H M, xs = [p] ∧ Hs = [H] ∧ RefAt H p M
  post := fun xs Hs Rs v Hs' F => ∃ p H M H', xs = [p] ∧ Hs = [H] ∧ RefAt H p M ∧ Hs' = [H'] ∧ RefAt H' p M ∧ v = .int .i64 (cntB M.is)
def rlooseNd : Nd := .and (.inv 0 [⟨40, 0, .int .i64 (.lit 0)⟩, ⟨41, 0, .int .i64 (.lit 0)⟩] []) (.havoc 0 0 19 (.and (.e (.le (.lit 0) (.var 7))) (.and (.imp (.lt (.var 41) (.var 7)) (.and (.e (.le (.lit 0) (.var 11))) (.and (.e (.le (.lit 0) (.var 41))) (.and (.e (.his 17 (.var 11) (.var 41) 0 .bool)) (.and (.imp (.hB 17 (.var 11) (.var 41) 0) (.back 0 0 [⟨40, 0, .int .i64 (.wrap .i64 (.add (.var 40) (.lit 1)))⟩, ⟨41, 0, .int .i64 (.wrap .i64 (.add (.var 41) (.lit 1)))⟩] [])) (.imp (.not (.hB 17 (.var 11) (.var 41) 0)) (.back 0 0 [⟨40, 0, .int .i64 (.var 40)⟩, ⟨41, 0, .int .i64 (.wrap .i64 (.add (.var 41) (.lit 1)))⟩] []))))))) (.imp (.not (.lt (.var 41) (.var 7))) (.post [.blk 0 [.sl (.var 6) (.lit 0) (.var 7) (.var 8), .sl (.var 9) (.lit 0) (.var 7) (.var 10), .sl (.var 11) (.lit 0) (.var 7) (.var 12), .int .i64 (.var 13), .bool (.bvar 14)] 66, .hp 15 [] [.var 6] [], .hp 16 [] [.var 9] [], .hp 17 [] [.var 11] []] (.sv (.one (.int .i64 (.var 40)))))))))
def rlooseW : Walk Try.prog [] rlooseS.fn where
  Λ := fun p => if lp p then some ⟨0, [(3, TI .i64 (.var 40)), (4, TI .i64 (.var 41))], [], 42⟩ else none
  args := [TP (.var 0) (.lit 0)]
  mem := rMem
  nv := 19
  nd := rlooseNd
  ok := by kernel_rfl
/-- A bool that is read of a row of one's own. -/
theorem is_at {C : Hl} {x c : Int} {n : Nat} {l : List Bool} (h : OwnsH C 4 1 (sv0 x n c) n (l.map Value.bool)) (hx : -1 ≤ x) {k : Nat} (hk : k < n) : 0 ≤ x ∧ ∃ b, l[k]? = some b ∧ C.cell x.toNat k = some (.bool b) := by
  obtain ⟨h0, _, hc, _⟩ := OwnsH.put1 h hx hk (.bool true)
  have hl : l.length = n := by
    have := h.1
    rw [List.length_map] at this; omega
  refine ⟨h0, l[k], List.getElem?_eq_getElem (by omega), ?_⟩
  rw [hc, List.getElem?_map, List.getElem?_eq_getElem (by omega)]; rfl
theorem rlooseS_ok : rlooseS.OK Try.prog := by
  refine Spec.of_fn (Γ := []) (fun _ h => by cases h) ?_
  rintro xs Hs Rs hl1 hl2 ⟨p, H, M, rfl, rfl, a, n, x1, c1, x2, c2, x3, c3, A, B, C, rfl, h⟩
  have e1 : Rs = [] := List.length_eq_zero_iff.1 hl2
  subst e1
  refine ⟨rlooseW, rEnv a n x1 c1 x2 c2 x3 c3 A B C M [0, 0, 0, 0, 0] Hl.none, fun _ q => ∃ k : Nat, q.i 41 = k ∧ k ≤ n ∧ q.i 40 = cntB (M.is.take k), fun _ q => ((n : Int) - q.i 41).toNat, ?_, rEntry h _ rfl _, (fun _ h => nomatch h), ?_⟩
  · show [Value.pointer (slP (a : Int) 0)] = _
    rw [dArg]
  · show Nd.holds _ _ _ rlooseNd
    generalize hρ : rEnv a n x1 c1 x2 c2 x3 c3 A B C M [0, 0, 0, 0, 0] Hl.none = ρ
    have v7 : ρ.i 7 = n := by rw [← hρ]; rfl
    have v11 : ρ.i 11 = x3 := by rw [← hρ]; rfl
    have v13 : ρ.i 13 = M.fuse := by rw [← hρ]; rfl
    have b14 : ρ.b 14 = M.gone := by rw [← hρ]; rfl
    have w15 : ρ.h 15 = A := by rw [← hρ]; rfl
    have w16 : ρ.h 16 = B := by rw [← hρ]; rfl
    have w17 : ρ.h 17 = C := by rw [← hρ]; rfl
    have hn := h.len
    have hn2 := h.ok.n
    have hil := h.ok.il
    unfold rlooseNd
    simp only [Nd.holds, X.pre, X.rel, X.n, Src.ok, Src.len, Src.vals, true_and, and_true, if_true, Nat.mul_one, Nat.add_zero, Nat.reduceAdd, List.length_cons, List.length_nil, bT_tt, bT_ff, bT_bvar, bT_not, bT_and, bT_or, bT_ite, bT_lt, bT_le, bT_eq, bT_beq, bT_seq, bT_hB, bT_his, bT_hby, bT_hism, bT_hks, iev_lit, iev_var, iev_add, iev_sub, iev_mul, iev_wrap, iev_ite, iev_hI, iev_hP, iev_hmlen, sev_ite, sev_slit, sev_sof, sev_svar, TV.ev, SV.ev, CV.ev, List.map_cons, List.map_nil, Res.hl]
    refine ⟨⟨0, rfl, Nat.zero_le _, rfl⟩, fun q g ⟨k, e41, hk, e40⟩ => ?_⟩
    rw [g.i 7 (by omega), v7, g.i 11 (by omega), v11, g.h 17 (by omega), w17, e41]
    refine ⟨by omega, fun hlt => ?_, fun hge hd => ?_⟩
    · obtain ⟨h0, b, hb, hc⟩ := is_at h.is h.r3.1 (k := k) (by omega)
      have htk : M.is.take (k + 1) = M.is.take k ++ [b] := by rw [List.take_add_one, hb]; rfl
      have hle := cntB_le (M.is.take k)
      rw [List.length_take] at hle
      rw [Int.toNat_natCast, hc]
      have m41 : IntKind.i64.wrap (q.i 41 + 1) = k + 1 := by rw [e41, wrap_i64 (by omega) (by omega)]
      refine ⟨h0, by omega, rfl, fun hbt => ⟨⟨k + 1, ?_, by omega, ?_⟩, ?_⟩, fun hbf => ⟨⟨k + 1, ?_, by omega, ?_⟩, ?_⟩⟩
      · show IntKind.i64.wrap (q.i 41 + 1) = _
        rw [m41]; omega
      · show IntKind.i64.wrap (q.i 40 + 1) = _
        have hbt : b = true := hbt
        rw [e40, htk, cntB_snoc, if_pos hbt, wrap_i64 (by omega) (by omega)]; omega
      · show ((n : Int) - IntKind.i64.wrap (q.i 41 + 1)).toNat < _
        rw [m41]; omega
      · show IntKind.i64.wrap (q.i 41 + 1) = _
        rw [m41]; omega
      · show q.i 40 = _
        have hbf : ¬ b = true := hbf
        rw [e40, htk, cntB_snoc, if_neg hbf]; rfl
      · show ((n : Int) - IntKind.i64.wrap (q.i 41 + 1)).toNat < _
        rw [m41]; omega
    · have ek : k = n := by omega
      subst ek
      rw [List.take_of_length_le (by omega)] at e40
      rw [← hρ] at g
      refine ⟨[[0, 1, 2, 3]], [], rfl, rfl, ⟨⟨fun _ => cntB M.is, fun _ => false, fun _ => .empty, fun _ => .tuple #[], fun _ => Hl.none⟩, ?_, trivial, trivial⟩, _, H, M, _, rfl, rfl, ⟨a, _, x1, c1, x2, c2, x3, c3, A, B, C, rfl, h⟩, rfl, rOut h rfl g h.ok rfl ?_ ?_ ?_ ?_ ?_ hd, ?_⟩
      · show Value.int .i64 (q.i 40) = Value.int .i64 (cntB M.is : Int)
        rw [e40]
      · show Value.int .i64 (q.i 13) = _
        rw [g.i 13 (by omega)]; rfl
      · show Value.bool (q.b 14) = _
        rw [g.b 14 (by omega)]; rfl
      · rw [g.h 15 (by omega)]; exact h.now
      · rw [g.h 16 (by omega)]; exact h.was
      · rw [g.h 17 (by omega)]; exact h.is
      · show Value.int .i64 (q.i 40) = Value.int .i64 (cntB M.is : Int)
        rw [e40]

/-! ### Sync -/
def rsyncR (M : RM) : Int × RM := if M.gone = true ∨ M.fuse = 0 then (5, { M with gone := true }) else (0, ⟨M.now, M.now, List.replicate M.now.length false, lessF M.fuse, false⟩)
theorem set_mix {α : Type} {a b : List α} {k : Nat} {x : α} (hl : a.length = b.length) (hx : a[k]? = some x) : (a.take k ++ b.drop k).set k x = a.take (k + 1) ++ b.drop (k + 1) := by
  have hk := (List.getElem?_eq_some_iff.1 hx).1
  have hb : b.drop k = b[k] :: b.drop (k + 1) := List.drop_eq_getElem_cons (by omega)
  rw [hb, List.set_append_right _ _ (by rw [List.length_take]; omega), List.length_take, Nat.min_eq_left (by omega), Nat.sub_self, List.set_cons_zero, List.take_add_one, hx]
  simp
theorem mix_len {α : Type} {a b : List α} {k : Nat} (hl : a.length = b.length) (hk : k ≤ a.length) : (a.take k ++ b.drop k).length = a.length := by
  rw [List.length_append, List.length_take, List.length_drop]; omega
def rsyncS : Sx.Spec where
  fn := 30
  own := [.arg 0]
  rd := []
  res := [.one (.int .i64)]
  pre := fun xs Hs Rs => ∃ p H M, xs = [p] ∧ Hs = [H] ∧ RefAt H p M
  post := fun xs Hs Rs v Hs' F => ∃ p H M H', xs = [p] ∧ Hs = [H] ∧ RefAt H p M ∧ Hs' = [H'] ∧ RefAt H' p (rsyncR M).2 ∧ v = .int .i64 (rsyncR M).1
def rsyncNd : Nd := .and (.imp (.not (.bvar 14)) (.and (.imp (.eq (.var 13) (.lit 0)) (.post [.blk 0 [.sl (.var 6) (.lit 0) (.var 7) (.var 8), .sl (.var 9) (.lit 0) (.var 7) (.var 10), .sl (.var 11) (.lit 0) (.var 7) (.var 12), .int .i64 (.var 13), .bool .tt] 66, .hp 15 [] [.var 6] [], .hp 16 [] [.var 9] [], .hp 17 [] [.var 11] []] (.sv (.one (.int .i64 (.lit 5)))))) (.imp (.not (.eq (.var 13) (.lit 0))) (.and (.and (.imp (.lt (.lit 0) (.var 13)) (.inv 1 [⟨30, 0, .int .i64 (.wrap .i64 (.sub (.var 13) (.lit 1)))⟩] [])) (.imp (.not (.lt (.lit 0) (.var 13))) (.inv 1 [⟨30, 0, .int .i64 (.var 13)⟩] []))) (.havoc 0 1 19 (.and (.inv 0 [⟨40, 0, .int .i64 (.lit 0)⟩] [(41, some 16), (42, some 17)]) (.havoc 0 0 31 (.and (.e (.le (.lit 0) (.var 7))) (.and (.imp (.lt (.var 40) (.var 7)) (.and (.e (.le (.lit 0) (.var 6))) (.and (.e (.le (.lit 0) (.var 40))) (.and (.e (.his 15 (.var 6) (.var 40) 0 .slice)) (.ext (.alloc 43) (.and (.pre (.app 44 5 1 1 (.sl (.var 43) (.lit 0) (.lit 0) (.lit 0)) (.lit 0) (.blk 43 [] 5) (.seg 15 (.hP 15 (.var 6) (.var 40) 0 0) (.hP 15 (.var 6) (.var 40) 0 1) (.hP 15 (.var 6) (.var 40) 0 2)))) (.ext (.app 44 5 1 1 (.sl (.var 43) (.lit 0) (.lit 0) (.lit 0)) (.lit 0) (.blk 43 [] 5) (.seg 15 (.hP 15 (.var 6) (.var 40) 0 0) (.hP 15 (.var 6) (.var 40) 0 1) (.hP 15 (.var 6) (.var 40) 0 2))) (.and (.e (.le (.lit 0) (.var 9))) (.ext (.mrg 46 (.hp 41 [] [.var 9] []) (.hp 44 [] [.var 44, .var 43] [])) (.and (.pre (.put 47 46 (.var 9) (.var 40) [.sl (.var 44) (.lit 0) (.hP 15 (.var 6) (.var 40) 0 2) (.var 45)])) (.ext (.put 47 46 (.var 9) (.var 40) [.sl (.var 44) (.lit 0) (.hP 15 (.var 6) (.var 40) 0 2) (.var 45)]) (.and (.e (.le (.lit 0) (.var 11))) (.and (.pre (.put 48 42 (.var 11) (.var 40) [.bool .ff])) (.ext (.put 48 42 (.var 11) (.var 40) [.bool .ff]) (.back 0 0 [⟨40, 0, .int .i64 (.wrap .i64 (.add (.var 40) (.lit 1)))⟩] [(41, some 47), (42, some 48)]))))))))))))))) (.imp (.not (.lt (.var 40) (.var 7))) (.post [.blk 0 [.sl (.var 6) (.lit 0) (.var 7) (.var 8), .sl (.var 9) (.lit 0) (.var 7) (.var 10), .sl (.var 11) (.lit 0) (.var 7) (.var 12), .int .i64 (.var 30), .bool (.bvar 14)] 66, .hp 15 [] [.var 6] [], .hp 41 [] [.var 9] [], .hp 42 [] [.var 11] []] (.sv (.one (.int .i64 (.lit 0))))))))))))))) (.imp (.bvar 14) (.post [.blk 0 [.sl (.var 6) (.lit 0) (.var 7) (.var 8), .sl (.var 9) (.lit 0) (.var 7) (.var 10), .sl (.var 11) (.lit 0) (.var 7) (.var 12), .int .i64 (.var 13), .bool .tt] 66, .hp 15 [] [.var 6] [], .hp 16 [] [.var 9] [], .hp 17 [] [.var 11] []] (.sv (.one (.int .i64 (.lit 5))))))
def rsyncW : Walk Try.prog [] rsyncS.fn where
  Λ := fun p => if lp p then some ⟨0, [(3, TI .i64 (.var 40))], [(2, .hp 41 [] [.var 9] []), (3, .hp 42 [] [.var 11] [])], 43⟩ else if chCut p then some ⟨1, [], [(0, rBlk (.int .i64 (.var 30)) (.bool (.bvar 14)))], 31⟩ else none
  args := [TP (.var 0) (.lit 0)]
  mem := rMem
  nv := 19
  nd := rsyncNd
  ok := by kernel_rfl
def rsyncInv (M : RM) (n : Nat) (x2 c2 x3 c3 : Int) : Nat → Env → Prop
  | 0, q => ∃ k : Nat, q.i 40 = k ∧ k ≤ n ∧ RowsO (q.h 41) (sv0 x2 n c2) (M.now.take k ++ M.was.drop k) ∧ OwnsH (q.h 42) 4 1 (sv0 x3 n c3) n (((List.replicate n false).take k ++ M.is.drop k).map Value.bool)
  | _, q => q.i 30 = lessF M.fuse
theorem rsyncS_ok : rsyncS.OK Try.prog := by
  refine Spec.of_fn (Γ := []) (fun _ h => by cases h) ?_
  rintro xs Hs Rs hl1 hl2 ⟨p, H, M, rfl, rfl, a, n, x1, c1, x2, c2, x3, c3, A, B, C, rfl, h⟩
  have e1 : Rs = [] := List.length_eq_zero_iff.1 hl2
  subst e1
  refine ⟨rsyncW, rEnv a n x1 c1 x2 c2 x3 c3 A B C M [0, 0, 0, 0, 0] Hl.none, rsyncInv M n x2 c2 x3 c3, fun _ q => ((n : Int) - q.i 40).toNat, ?_, rEntry h _ rfl _, (fun _ h => nomatch h), ?_⟩
  · show [Value.pointer (slP (a : Int) 0)] = _
    rw [dArg]
  · show Nd.holds _ _ _ rsyncNd
    generalize hρ : rEnv a n x1 c1 x2 c2 x3 c3 A B C M [0, 0, 0, 0, 0] Hl.none = ρ
    have v6 : ρ.i 6 = x1 := by rw [← hρ]; rfl
    have v7 : ρ.i 7 = n := by rw [← hρ]; rfl
    have v9 : ρ.i 9 = x2 := by rw [← hρ]; rfl
    have v11 : ρ.i 11 = x3 := by rw [← hρ]; rfl
    have v13 : ρ.i 13 = M.fuse := by rw [← hρ]; rfl
    have b14 : ρ.b 14 = M.gone := by rw [← hρ]; rfl
    have w15 : ρ.h 15 = A := by rw [← hρ]; rfl
    have w16 : ρ.h 16 = B := by rw [← hρ]; rfl
    have w17 : ρ.h 17 = C := by rw [← hρ]; rfl
    have out : ∀ (q : Env) (f g : CV) (k1 k2 k3 : Nat) (u1 u2 u3 : List Nat) (t1 t2 t3 : List E) (t : Mem) (c : Int) (M' : RM), Agree 19 ρ q → rsyncR M = (c, M') → M'.ok → M'.now.length = M.now.length → f.ev q = .int .i64 M'.fuse → g.ev q = .bool M'.gone → RowsO (q.h k1) (sv0 x1 n c1) M'.now → RowsO (q.h k2) (sv0 x2 n c2) M'.was → OwnsH (q.h k3) 4 1 (sv0 x3 n c3) n (M'.is.map Value.bool) →
        postOf rsyncS [.pointer (some ⟨a, 0, none⟩)] [H] [] q (rBlk f g :: .hp k1 u1 t1 [] :: .hp k2 u2 t2 [] :: .hp k3 u3 t3 [] :: t) (.sv (.one (.int .i64 (.lit c)))) := by
      intro q f g k1 k2 k3 u1 u2 u3 t1 t2 t3 t c M' hq hs hok hn hf hg h1 h2 h3 hd
      rw [← hρ] at hq
      refine ⟨[[0, 1, 2, 3]], [], rfl, rfl, ⟨⟨fun _ => c, fun _ => false, fun _ => .empty, fun _ => .tuple #[], fun _ => Hl.none⟩, rfl, trivial, trivial⟩, _, H, M, _, rfl, rfl, ⟨a, n, x1, c1, x2, c2, x3, c3, A, B, C, rfl, h⟩, rfl, ?_, by rw [hs]; rfl⟩
      rw [hs]
      exact rOut h rfl hq hok hn hf hg h1 h2 h3 hd
    have lost : M.gone = true ∨ M.fuse = 0 → ∀ t : Mem, postOf rsyncS [.pointer (some ⟨a, 0, none⟩)] [H] [] ρ (rBlk (.int .i64 (.var 13)) (.bool .tt) :: .hp 15 [] [.var 6] [] :: .hp 16 [] [.var 9] [] :: .hp 17 [] [.var 11] [] :: t) (.sv (.one (.int .i64 (.lit 5)))) := by
      intro hg t
      refine out ρ _ _ 15 16 17 _ _ _ _ _ _ t 5 { M with gone := true } (Agree.refl _ _) (by unfold rsyncR; rw [if_pos hg]) h.ok.gone rfl (by show Value.int .i64 (ρ.i 13) = _; rw [v13]) rfl (by rw [w15]; exact h.now) (by rw [w16]; exact h.was) (by rw [w17]; exact h.is)
    have hn := h.len
    have hn2 := h.ok.n
    have hil := h.ok.il
    have hwl := h.ok.wl
    unfold rsyncNd
    simp only [Nd.holds, X.pre, X.rel, X.n, Src.ok, Src.len, Src.vals, true_and, and_true, if_true, Nat.mul_one, Nat.add_zero, Nat.reduceAdd, List.length_cons, List.length_nil, bT_tt, bT_ff, bT_bvar, bT_not, bT_and, bT_or, bT_ite, bT_lt, bT_le, bT_eq, bT_beq, bT_seq, bT_hB, bT_his, bT_hby, bT_hism, bT_hks, iev_lit, iev_var, iev_add, iev_sub, iev_mul, iev_wrap, iev_ite, iev_hI, iev_hP, iev_hmlen, sev_ite, sev_slit, sev_sof, sev_svar, TV.ev, SV.ev, CV.ev, List.map_cons, List.map_nil, Res.hl]
    rw [b14, v13]
    refine ⟨fun hg => ⟨fun hz => lost (Or.inr hz) [], fun hz => ⟨⟨fun hp => ?_, fun hp => ?_⟩, fun q g e30 => ⟨⟨0, rfl, Nat.zero_le _, ?_, ?_⟩, fun q1 g1 ⟨k, e40, hk, hW, hI⟩ => ?_⟩⟩⟩, fun hg => lost (Or.inl hg) []⟩
    · show IntKind.i64.wrap (ρ.i 13 - 1) = _
      have := h.ok.f0
      have := h.ok.f1
      rw [v13, wrap_i64 (by omega) (by omega)]
      unfold lessF
      rw [if_pos hp]
    · show ρ.i 13 = _
      rw [v13]; unfold lessF; rw [if_neg hp]
    · show RowsO (q.h 16) _ _
      rw [g.h 16 (by omega), w16]; simpa using h.was
    · show OwnsH (q.h 17) _ _ _ _ _
      rw [g.h 17 (by omega), w17]; simpa using h.is
    have A1 : Agree 19 ρ q1 := g.trans (g1.mono (by omega))
    have f30 : q1.i 30 = lessF M.fuse := by rw [g1.i 30 (by omega)]; exact e30
    have hmix : (M.now.take k ++ M.was.drop k).length = n := by rw [mix_len hwl.symm (by omega), hn]
    rw [A1.i 7 (by omega), v7, A1.i 6 (by omega), v6, A1.h 15 (by omega), w15, e40]
    refine ⟨by omega, fun hlt => ?_, fun hge => ?_⟩
    · have hnow : RowsO A (sv0 x1 n c1) M.now := h.now
      obtain ⟨r, hr⟩ : ∃ r, M.now[k]? = some r := ⟨_, List.getElem?_eq_getElem (by omega)⟩
      obtain ⟨h0x1, b, cc, hcell, hbytes⟩ := (hnow.at h.r1.1 (by omega)).2 k r hr
      have hr64 : r.length = 64 := h.ok.now r (List.mem_of_getElem? hr)
      rw [Int.toNat_natCast, hcell]
      refine ⟨h0x1, by omega, rfl, fun q2 g2 p43 => ?_⟩
      have A2 : Agree 19 ρ q2 := A1.trans (g2.mono (by omega))
      have B2 : Agree 43 q1 q2 := g2
      rw [A2.h 15 (by omega), w15, A2.i 6 (by omega), v6, B2.i 40 (by omega), e40, Int.toNat_natCast, hcell]
      have ho0 := own0 (Hl.one (q2.i 43).toNat (.cells #[] 5 (0, 0))) p43 rfl
      obtain ⟨hok, hseg⟩ := seg_of (R := A) (x := b) (y := 0) (l := (r.length : Int)) rfl (Int.le_refl _) (Or.inr ⟨by omega, fun j z hz => by have := hbytes j z hz; simpa using this⟩)
      have e0 : valP (some (Value.slice (some ⟨b, 0, none⟩) r.length cc)) 0 = b := rfl
      have e1 : valP (some (Value.slice (some ⟨b, 0, none⟩) r.length cc)) 1 = 0 := rfl
      have e2 : valP (some (Value.slice (some ⟨b, 0, none⟩) r.length cc)) 2 = r.length := rfl
      rw [e0, e1, e2]
      refine ⟨⟨⟨_, ho0⟩, Int.le_refl _, by simpa using hok, by rw [hr64]; decide, by rw [hr64]; decide⟩, fun q3 g3 ⟨a1, a2, a3, _⟩ => ?_⟩
      have hx3 := a3 _ ho0
      rw [hseg, List.nil_append] at hx3
      have A3 : Agree 19 ρ q3 := A2.trans (g3.mono (by omega))
      have B3 : Agree 43 q1 q3 := B2.trans (g3.mono (by omega))
      have hrow : RowO (q3.h 44) none (.slice (slP (q3.i 44) 0) ((r.length : Int)).toNat (q3.i 45).toNat) r := by
        refine rowO_of ?_ (fun e => by rw [e] at hr64; cases hr64)
        rw [Int.toNat_natCast]
        simpa using hx3
      rw [A3.i 9 (by omega), v9]
      have hkm : k < (M.now.take k ++ M.was.drop k).length := by omega
      have h0x2 : 0 ≤ x2 := (RowsO.at (x := x2) (l := n) (c := c2) hW h.r2.1 (by omega)).2 k _ (List.getElem?_eq_getElem hkm) |>.1
      refine ⟨h0x2, fun q4 g4 ⟨h46, d46⟩ => ?_⟩
      have A4 : Agree 19 ρ q4 := A3.trans (g4.mono (by omega))
      have B4 : Agree 43 q1 q4 := B3.trans (g4.mono (by omega))
      rw [B3.h 41 (by omega)] at h46 d46
      obtain ⟨_, w1, hput⟩ := RowsO.put (x := x2) (l := n) (c := c2) hW h.r2.1 d46 hrow hkm
      rw [A4.i 9 (by omega), v9, B4.i 40 (by omega), e40, h46, Int.toNat_natCast, A4.h 15 (by omega), w15, A4.i 6 (by omega), v6, hcell, e2]
      have e44 : Value.slice (slP (q4.i 44) 0) ((r.length : Int)).toNat (q4.i 45).toNat = .slice (slP (q3.i 44) 0) ((r.length : Int)).toNat (q3.i 45).toNat := by
        rw [g4.i 44 (by omega), g4.i 45 (by omega)]
      rw [e44]
      refine ⟨⟨h0x2, by omega, w1⟩, fun q5 g5 h47 => ?_⟩
      have A5 : Agree 19 ρ q5 := A4.trans (g5.mono (by omega))
      have B5 : Agree 43 q1 q5 := B4.trans (g5.mono (by omega))
      obtain ⟨h0x3, w3, _, hput3⟩ := OwnsH.put1 (x := x3) (l := n) (c := c3) hI h.r3.1 (i := k) (by omega) (.bool false)
      rw [A5.i 11 (by omega), v11, B5.i 40 (by omega), e40, B5.h 42 (by omega), Int.toNat_natCast]
      refine ⟨h0x3, ⟨h0x3, by omega, w3⟩, fun q6 g6 h48 => ?_⟩
      have B6 : Agree 43 q1 q6 := B5.trans (g6.mono (by omega))
      have m40 : IntKind.i64.wrap (q6.i 40 + 1) = k + 1 := by rw [B6.i 40 (by omega), e40, wrap_i64 (by omega) (by omega)]
      refine ⟨⟨k + 1, ?_, by omega, ?_, ?_⟩, ?_⟩
      · show IntKind.i64.wrap (q6.i 40 + 1) = _
        rw [m40]; omega
      · show RowsO (q6.h 47) _ _
        rw [g6.h 47 (by omega), h47, ← set_mix hwl.symm hr]
        exact hput
      · show OwnsH (q6.h 48) _ _ _ _ _
        rw [h48, ← set_mix (a := List.replicate n false) (x := false) (by rw [List.length_replicate]; omega) (by rw [List.getElem?_replicate, if_pos (by omega)]), map_set_bool]
        exact hput3
      · show ((n : Int) - IntKind.i64.wrap (q6.i 40 + 1)).toNat < _
        rw [m40]; omega
    · have ek : k = n := by omega
      rw [ek, List.take_of_length_le (by omega), List.drop_eq_nil_of_le (by omega), List.append_nil] at hW
      rw [ek, List.take_of_length_le (by rw [List.length_replicate]; omega), List.drop_eq_nil_of_le (by omega), List.append_nil] at hI
      have hgf : M.gone = false := Bool.eq_false_iff.2 hg
      refine out q1 _ _ 15 41 42 _ _ _ _ _ _ _ 0 ⟨M.now, M.now, List.replicate M.now.length false, lessF M.fuse, false⟩ A1 ?_ ?_ rfl ?_ ?_ ?_ hW ?_
      · unfold rsyncR
        rw [if_neg fun e => e.elim hg hz]
      · exact ⟨h.ok.now, h.ok.now, rfl, List.length_replicate, h.ok.n, (lessF_ok h.ok.f0 h.ok.f1).1, (lessF_ok h.ok.f0 h.ok.f1).2⟩
      · show Value.int .i64 (q1.i 30) = _
        rw [f30]
      · show Value.bool (q1.b 14) = _
        rw [A1.b 14 (by omega), b14, hgf]
      · rw [A1.h 15 (by omega), w15]; exact h.now
      · show OwnsH (q1.h 42) _ _ _ n ((List.replicate M.now.length false).map Value.bool)
        rw [hn]; exact hI
end Go.Proofs.Ytdohcabnaihaoaa
