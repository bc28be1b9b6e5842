/- Layer 7: Sync, Fuse, Gone, torn, as contracts. No condition. -/
import Derived.Test.YtdohcabnaihaoaaDskE
import Derived.Test.YtdohcabnaihaoaaSxF
set_option linter.unusedSimpArgs false
set_option linter.unusedVariables false
set_option linter.constructorNameAsVariable false
namespace Go.Proofs.Ytdohcabnaihaoaa
open Go Go.Sx

def syncR (D : DM) : Int × DM := if D.gone then (5, D) else if D.fuse = 0 then (5, { D with gone := true }) else (0, ⟨D.n, D.now, [], if 0 < D.fuse then D.fuse - 1 else D.fuse, D.gone⟩)
def fuseD (D : DM) (n : Int) : DM := { D with fuse := max n (-1) }
theorem fuseD_ok {D : DM} (h : D.ok) {n : Int} (hn : n ≤ 9223372036854775807) : (fuseD D n).ok := ⟨h.now, h.n, by show -1 ≤ max n (-1); omega, by show max n (-1) ≤ _; omega, h.loose⟩
/-- A way out of a walk over a disk. -/
theorem dOut {H : Hl} {a s m : Nat} {es es' : Array MapEntry} {clock clock' : Nat} {D D' : DM} {x1 x2 x3 x4 x5 : Int} {R : Hl} (h : DiskIn H a s m es clock D) {q : Env} (hq : Agree 15 (dEnv a s m D [x1, x2, x3, x4, x5] es clock R) q) {f g : E} {k1 k2 : Nat} {v1 v2 : List Nat} {t : Mem}
    (hok : D'.ok) (hn : D'.n = D.n) (hm : MapIs .i64 es' (lv D'.loose)) (hst : MapKept.Stamped es' clock') (hf : iev q f = D'.fuse) (hg : bev q g = D'.gone) (h1 : q.h k1 = dNow s D'.now) (h2 : q.h k2 = Hl.one m (.map es' clock')) :
    DiskAt (uni q (.blk 0 [.sl (.var 6) (.var 7) (.var 8) (.var 9), .map (.var 10), .int .i64 f, .bool g] 51 :: .hp k1 v1 [.var 6] [] :: .hp k2 v2 [.var 10] [] :: t) [0, 1, 2]) (.pointer (some ⟨a, 0, none⟩)) D' := by
  refine ⟨a, s, m, es', clock', rfl, dExit hok hm hst h.nas h.nam h.nsm (dBlk (hq.i 0 (by omega)) (hq.i 6 (by omega)) (hq.i 7 (by omega)) ?_ ?_ (hq.i 10 (by omega)) hf hg) h1 h2⟩
  · rw [hq.i 8 (by omega)]; show (D.n : Int) = (D'.n : Int); rw [hn]
  · rw [hq.i 9 (by omega)]; show (D.n : Int) = (D'.n : Int); rw [hn]
def diskPre (xs : List Value) (Hs : List Hl) (p : Value) (D : DM) : Prop := ∃ H rest, xs = p :: rest ∧ Hs = [H] ∧ DiskAt H p D
def syncS : Sx.Spec where
  fn := 16
  own := [.arg 0]
  rd := []
  res := [.one (.int .i64)]
  pre := fun xs Hs Rs => ∃ p H D, xs = [p] ∧ Hs = [H] ∧ DiskAt H p D
  post := fun xs Hs Rs v Hs' F => ∃ p H D H', xs = [p] ∧ Hs = [H] ∧ DiskAt H p D ∧ Hs' = [H'] ∧ DiskAt H' p (syncR D).2 ∧ v = .int .i64 (syncR D).1
def syncNd : Nd := .and (.imp (.not (.bvar 12)) (.and (.imp (.eq (.var 11) (.lit 0)) (.post [.blk 0 [.sl (.var 6) (.var 7) (.var 8) (.var 9), .map (.var 10), .int .i64 (.var 11), .bool .tt] 51, .hp 13 [] [.var 6] [], .hp 14 [] [.var 10] []] (.sv (.one (.int .i64 (.lit 5)))))) (.imp (.not (.eq (.var 11) (.lit 0))) (.and (.imp (.lt (.lit 0) (.var 11)) (.and (.pre (.mclr 15 14 (.var 10))) (.ext (.mclr 15 14 (.var 10)) (.post [.blk 0 [.sl (.var 6) (.var 7) (.var 8) (.var 9), .map (.var 10), .int .i64 (.wrap .i64 (.sub (.var 11) (.lit 1))), .bool (.bvar 12)] 51, .hp 13 [] [.var 6] [], .hp 15 [14] [.var 10] []] (.sv (.one (.int .i64 (.lit 0)))))))) (.imp (.not (.lt (.lit 0) (.var 11))) (.and (.pre (.mclr 15 14 (.var 10))) (.ext (.mclr 15 14 (.var 10)) (.post [.blk 0 [.sl (.var 6) (.var 7) (.var 8) (.var 9), .map (.var 10), .int .i64 (.var 11), .bool (.bvar 12)] 51, .hp 13 [] [.var 6] [], .hp 15 [14] [.var 10] []] (.sv (.one (.int .i64 (.lit 0)))))))))))) (.imp (.bvar 12) (.post [.blk 0 [.sl (.var 6) (.var 7) (.var 8) (.var 9), .map (.var 10), .int .i64 (.var 11), .bool (.bvar 12)] 51, .hp 13 [] [.var 6] [], .hp 14 [] [.var 10] []] (.sv (.one (.int .i64 (.lit 5))))))
def syncW : Walk Try.prog [] syncS.fn where
  Λ := noLoops
  args := [TP (.var 0) (.lit 0)]
  mem := dMem
  nv := 15
  nd := syncNd
  ok := by kernel_rfl
theorem syncS_ok : syncS.OK Try.prog := by
  refine Spec.of_fn (Γ := []) (fun _ h => by cases h) ?_
  rintro xs Hs Rs hl1 hl2 ⟨p, H, D, rfl, rfl, a, s, m, es, clock, rfl, h⟩
  have e1 : Rs = [] := List.length_eq_zero_iff.1 hl2
  subst e1
  refine ⟨syncW, dEnv a s m D [0, 0, 0, 0, 0] es clock Hl.none, fun _ _ => True, fun _ _ => 0, ?_, dEntry h _ rfl _, (fun _ h => nomatch h), ?_⟩
  · show [Value.pointer (slP (a : Int) 0)] = _; rw [dArg]
  · show Nd.holds _ _ _ syncNd
    unfold syncNd
    simp only [Nd.holds, X.pre, X.rel, X.n, Src.ok, Src.len, Src.vals, true_and, and_true, if_true, Nat.mul_one, Nat.add_zero, Nat.reduceAdd, List.length_cons, List.length_nil, bT_tt, bT_ff, bT_bvar, bT_not, bT_and, bT_or, bT_ite, bT_lt, bT_le, bT_eq, bT_beq, bT_seq, bT_hB, bT_his, bT_hby, bT_hism, bT_hks, iev_lit, iev_var, iev_add, iev_sub, iev_mul, iev_wrap, iev_ite, iev_hI, iev_hP, iev_hmlen, sev_ite, sev_slit, sev_sof, sev_svar, TV.ev, SV.ev, CV.ev, List.map_cons, List.map_nil, Res.hl]
    generalize hρ : dEnv a s m D [0, 0, 0, 0, 0] es clock Hl.none = ρ
    have v10 : ρ.i 10 = m := by rw [← hρ]; rfl
    have v11 : ρ.i 11 = D.fuse := by rw [← hρ]; rfl
    have vb : ρ.b 12 = D.gone := by rw [← hρ]; rfl
    have vh : ρ.h 13 = dNow s D.now := by rw [← hρ]; rfl
    have vm : ρ.h 14 = Hl.one m (.map es clock) := by rw [← hρ]; rfl
    have out : ∀ (q : Env) (f g : E) (k1 k2 : Nat) (w1 w2 : List Nat) (t : Mem) (c : Int) (D' : DM) (es' : Array MapEntry) (clock' : Nat), Agree 15 ρ q → syncR D = (c, D') → D'.ok → D'.n = D.n → MapIs .i64 es' (lv D'.loose) → MapKept.Stamped es' clock' → iev q f = D'.fuse → bev q g = D'.gone → q.h k1 = dNow s D'.now → q.h k2 = Hl.one m (.map es' clock') →
        postOf syncS [.pointer (some ⟨a, 0, none⟩)] [H] [] q (.blk 0 [.sl (.var 6) (.var 7) (.var 8) (.var 9), .map (.var 10), .int .i64 f, .bool g] 51 :: .hp k1 w1 [.var 6] [] :: .hp k2 w2 [.var 10] [] :: t) (.sv (.one (.int .i64 (.lit c)))) := by
      intro q f g k1 k2 w1 w2 t c D' es' clock' hq hs hok hn hm hst hf hg h1 h2 _
      rw [← hρ] at hq
      refine ⟨[[0, 1, 2]], [], rfl, rfl, ⟨⟨fun _ => c, fun _ => false, fun _ => .empty, fun _ => .tuple #[], fun _ => Hl.none⟩, rfl, trivial, trivial⟩, _, H, D, _, rfl, rfl, ⟨a, s, m, es, clock, rfl, h⟩, rfl, ?_, by rw [hs]; rfl⟩
      rw [hs]
      exact dOut h hq hok hn hm hst hf hg h1 h2
    have hmem : (Hl.one m (.map es clock)) ((m : Int)).toNat = some (.map es clock) := by rw [Int.toNat_natCast]; exact Hl.one_self _ _
    have tail : ∀ (f : E), (∀ q, Agree 15 ρ q → iev q f = if 0 < D.fuse then D.fuse - 1 else D.fuse) → D.gone = false → D.fuse ≠ 0 → (0 ≤ ρ.i 10 ∧ ∃ es clock, ρ.h 14 (ρ.i 10).toNat = some (.map es clock)) ∧ ∀ ρ', Agree 15 ρ ρ' → (∀ es clock, ρ.h 14 (ρ.i 10).toNat = some (.map es clock) → ρ'.h 15 = (ρ.h 14).setObj (ρ.i 10).toNat (.map #[] clock)) →
        postOf syncS [.pointer (some ⟨a, 0, none⟩)] [H] [] ρ' [.blk 0 [.sl (.var 6) (.var 7) (.var 8) (.var 9), .map (.var 10), .int .i64 f, .bool (.bvar 12)] 51, .hp 13 [] [.var 6] [], .hp 15 [14] [.var 10] []] (.sv (.one (.int .i64 (.lit 0)))) := by
      intro f hf hg hz
      rw [v10, vm]
      refine ⟨⟨by omega, es, clock, hmem⟩, fun q gq hq => ?_⟩
      have hq := hq es clock hmem
      rw [Int.toNat_natCast, Hl.one_setObj] at hq
      refine out q f (.bvar 12) 13 15 _ _ _ 0 ⟨D.n, D.now, [], if 0 < D.fuse then D.fuse - 1 else D.fuse, D.gone⟩ #[] clock gq ?_ ⟨h.ok.now, h.ok.n, ?_, ?_, fun p hp => by cases hp⟩ rfl rfl (MapKept.stamped_empty _) (hf q gq) (by rw [bev_bvar, gq.b 12 (by omega), vb]) (by rw [gq.h 13 (by omega), vh]) hq
      · unfold syncR; rw [if_neg (by rw [hg]; simp), if_neg hz]
      · have := h.ok.f0; show -1 ≤ (if 0 < D.fuse then D.fuse - 1 else D.fuse); split <;> omega
      · have := h.ok.f1; show (if 0 < D.fuse then D.fuse - 1 else D.fuse) ≤ _; split <;> omega
    rw [vb, v11]
    have f0 := h.ok.f0
    have f1 := h.ok.f1
    refine ⟨fun hg => ⟨fun hz => ?_, fun hz => ⟨fun hp => tail _ (fun q gq => ?_) (Bool.eq_false_iff.2 hg) hz, fun hp => tail _ (fun q gq => ?_) (Bool.eq_false_iff.2 hg) hz⟩⟩, fun hg => ?_⟩
    · refine out ρ _ _ _ _ _ _ _ 5 { D with gone := true } es clock (Agree.refl _ _) ?_ ⟨h.ok.now, h.ok.n, h.ok.f0, h.ok.f1, h.ok.loose⟩ rfl h.map h.st (by rw [iev_var, v11]) (bev_tt _) vh vm
      unfold syncR; rw [if_neg hg, if_pos hz]
    · rw [if_pos hp, iev_wrap, iev_sub, iev_var, iev_lit, gq.i 11 (by omega), v11]
      exact wrap_i64 (by omega) (by omega)
    · rw [if_neg hp, iev_var, gq.i 11 (by omega), v11]
    · refine out ρ _ _ _ _ _ _ _ 5 D es clock (Agree.refl _ _) ?_ h.ok rfl h.map h.st (by rw [iev_var, v11]) (by rw [bev_bvar, vb]) vh vm
      unfold syncR; rw [if_pos hg]
def fuseS : Sx.Spec where
  fn := 13
  own := [.arg 0]
  rd := []
  res := []
  pre := fun xs Hs Rs => ∃ p n H D, xs = [p, .int .i64 n] ∧ Hs = [H] ∧ DiskAt H p D ∧ n ≤ 9223372036854775807
  post := fun xs Hs Rs v Hs' F => ∃ p n H D H', xs = [p, .int .i64 n] ∧ Hs = [H] ∧ DiskAt H p D ∧ Hs' = [H'] ∧ DiskAt H' p (fuseD D n)
def fuseNd : Nd := .post [.blk 0 [.sl (.var 6) (.var 7) (.var 8) (.var 9), .map (.var 10), .int .i64 (.ite (.lt (.var 1) (.lit (-1))) (.lit (-1)) (.var 1)), .bool (.bvar 12)] 51, .hp 13 [] [.var 6] [], .hp 14 [] [.var 10] []] (.tup [])
def fuseW : Walk Try.prog [] fuseS.fn where
  Λ := noLoops
  args := [TP (.var 0) (.lit 0), TI .i64 (.var 1)]
  mem := dMem
  nv := 15
  nd := fuseNd
  ok := by kernel_rfl
theorem fuseS_ok : fuseS.OK Try.prog := by
  refine Spec.of_fn (Γ := []) (fun _ h => by cases h) ?_
  rintro xs Hs Rs hl1 hl2 ⟨p, n, H, D, rfl, rfl, ⟨a, s, m, es, clock, rfl, h⟩, hn⟩
  have e1 : Rs = [] := List.length_eq_zero_iff.1 hl2
  subst e1
  refine ⟨fuseW, dEnv a s m D [n, 0, 0, 0, 0] es clock Hl.none, fun _ _ => True, fun _ _ => 0, ?_, dEntry h _ rfl _, (fun _ h => nomatch h), ?_⟩
  · show [Value.pointer (slP (a : Int) 0), Value.int .i64 n] = _; rw [dArg]
  · show Nd.holds _ _ _ fuseNd
    unfold fuseNd
    simp only [Nd.holds]
    refine fun _ => ⟨[[0, 1, 2]], [], rfl, rfl, ⟨⟨fun _ => 0, fun _ => false, fun _ => .empty, fun _ => .tuple #[], fun _ => Hl.none⟩, rfl, trivial⟩, _, n, H, D, _, rfl, rfl, ⟨a, s, m, es, clock, rfl, h⟩, rfl, ?_⟩
    refine dOut h (Agree.refl _ _) (fuseD_ok h.ok hn) rfl h.map h.st ?_ rfl rfl rfl
    rw [iev_ite, bev_lt]
    show (if decide (n < -1) = true then -1 else n) = max n (-1)
    by_cases hc : n < -1
    · rw [if_pos (by simpa using hc)]; omega
    · rw [if_neg (by simpa using hc)]; omega
def goneS : Sx.Spec where
  fn := 14
  own := [.arg 0]
  rd := []
  res := [.one .bool]
  pre := fun xs Hs Rs => ∃ p H D, xs = [p] ∧ Hs = [H] ∧ DiskAt H p D
  post := fun xs Hs Rs v Hs' F => ∃ p H D H', xs = [p] ∧ Hs = [H] ∧ DiskAt H p D ∧ Hs' = [H'] ∧ DiskAt H' p D ∧ v = .bool D.gone
def goneNd : Nd := .post [.blk 0 [.sl (.var 6) (.var 7) (.var 8) (.var 9), .map (.var 10), .int .i64 (.var 11), .bool (.bvar 12)] 51, .hp 13 [] [.var 6] [], .hp 14 [] [.var 10] []] (.sv (.one (.bool (.bvar 12))))
def goneW : Walk Try.prog [] goneS.fn where
  Λ := noLoops
  args := [TP (.var 0) (.lit 0)]
  mem := dMem
  nv := 15
  nd := goneNd
  ok := by kernel_rfl
theorem goneS_ok : goneS.OK Try.prog := by
  refine Spec.of_fn (Γ := []) (fun _ h => by cases h) ?_
  rintro xs Hs Rs hl1 hl2 ⟨p, H, D, rfl, rfl, a, s, m, es, clock, rfl, h⟩
  have e1 : Rs = [] := List.length_eq_zero_iff.1 hl2
  subst e1
  refine ⟨goneW, dEnv a s m D [0, 0, 0, 0, 0] es clock Hl.none, fun _ _ => True, fun _ _ => 0, ?_, dEntry h _ rfl _, (fun _ h => nomatch h), ?_⟩
  · show [Value.pointer (slP (a : Int) 0)] = _; rw [dArg]
  · show Nd.holds _ _ _ goneNd
    unfold goneNd
    simp only [Nd.holds]
    exact fun _ => ⟨[[0, 1, 2]], [], rfl, rfl, ⟨⟨fun _ => 0, fun _ => D.gone, fun _ => .empty, fun _ => .tuple #[], fun _ => Hl.none⟩, rfl, trivial, trivial⟩, _, H, D, _, rfl, rfl, ⟨a, s, m, es, clock, rfl, h⟩, rfl, dOut h (Agree.refl _ _) h.ok rfl h.map h.st rfl rfl rfl rfl, rfl⟩

/-! ### A sector of which some bytes stay -/
def stays (k : Int) (j : Nat) : Bool := if k < 128 then decide ((j : Int) < k) else decide (64 - (k - 128) ≤ (j : Int))
def tornI (was now : List Int) (k : Int) : List Int := (List.range 64).map fun j => if stays k j then now.getD j 0 else was.getD j 0
def intsOf (v : Value) : List Int := (cellsV v).map fun c => valI (some c)
theorem intsOf_bys (l : List Int) : intsOf (.agg (bys l).toArray) = l := by
  show ((l.map (Value.int .u8)).map fun c => valI (some c)) = l
  rw [List.map_map]
  exact List.map_id l
def cell64 : List Ck := List.replicate 64 (.int .u8)
def tornG (xs : List Value) : Value := match xs with
  | [a, b, .int _ k] => .agg (bys (tornI (intsOf a) (intsOf b) k)).toArray
  | _ => .bool false
def tornN (xs : List Value) : Prop := match xs with
  | [_, _, .int _ k] => 0 ≤ k ∧ k < 256
  | _ => False
def tornS : Sx.Spec := pureS 28 [.agg cell64, .agg cell64, .one (.int .u8)] [.agg cell64] tornN tornG
def eM : E := (.ite (.lt (.lit 64) (.wrap .i64 (.rem (.var 128) (.lit 128)))) (.lit 64) (.wrap .i64 (.rem (.var 128) (.lit 128))))
def eD : E := (.wrap .i64 (.sub (.lit 64) eM))
def eO : E := (.ite (.eq (.lit 64) eD) (.lit 0) eD)
def tornA : List CV := (List.range 64).map fun (j : Nat) => .int .u8 (.ite (.lt (.lit (j : Int)) eM) (.var (64 + j)) (.var j))
def tornB : List CV := (List.range 64).map fun (j : Nat) => .int .u8 (.ite (.and (.le eO (.lit (j : Int))) (.lt (.lit (j : Int)) (.add eO (.sub (.lit 64) eD)))) (.var (64 + j)) (.var j))
def tornNd : Nd := .ext (.alloc 129) (.ext (.alloc 130) (.ext (.alloc 131) (.and (.imp (.lt (.var 128) (.lit 128)) (.and (.e (.le (.lit 0) eM)) (.and (.e (.le eM (.lit 64))) (.and (.e (.and (.le (.lit 0) eM) (.and (.le (.lit 0) eM) (.le eM (.lit 64))))) (.post [.dead, .dead, .dead] (.sv (.agg tornA))))))) (.imp (.not (.lt (.var 128) (.lit 128))) (.and (.e (.le (.lit 0) eD)) (.and (.e (.le eD (.lit 64))) (.and (.e (.and (.le (.lit 0) eO) (.and (.le (.lit 0) (.sub (.lit 64) eD)) (.and (.le (.lit 0) (.sub (.lit 64) eD)) (.le (.add eO (.sub (.lit 64) eD)) (.lit 64)))))) (.post [.dead, .dead, .dead] (.sv (.agg tornB))))))))))
def tornW : Walk Try.prog [] 28 where
  Λ := noLoops
  args := (cpSVs 0 [.agg cell64, .agg cell64, .one (.int .u8)]).map .sv
  mem := []
  nv := 129
  nd := tornNd
  ok := by kernel_rfl
theorem rowOK_bys : ∀ (n : Nat) (l : List Int), l.length = n → rowOK (bys l) ((List.replicate n (Ck.int .u8)).map kdOf)
  | 0, [], _ => trivial
  | n + 1, x :: l, h => ⟨by simp [valIs, kdOf], rowOK_bys n l (by simpa using h)⟩
  | 0, _ :: _, h => by simp at h
  | _ + 1, [], h => by simp at h
theorem tornI_length (a b : List Int) (k : Int) : (tornI a b k).length = 64 := by simp [tornI]
set_option maxRecDepth 20000 in
theorem tornS_ok : tornS.OK Try.prog := by
  refine pure_of (fun t h => by cases h) tornW rfl rfl rfl (fun q _ _ => ?_) (fun q hq hN => ⟨fun _ _ => True, fun _ _ => 0, ?_⟩)
  · obtain ⟨ρ, _, _, e⟩ := row_rep cell64 0 (bys (tornI (intsOf ((SV.agg (ckCVs 0 cell64)).ev q)) (intsOf ((SV.agg (ckCVs 64 cell64)).ev q)) (q.i 128))) q (rowOK_bys 64 _ (tornI_length _ _ _))
    exact ⟨ρ, by show Value.agg _ = Value.agg ((ckCVs 0 cell64).map (CV.ev ρ)).toArray; rw [e]; rfl, ckNorms_pure _ _ _ (by decide), trivial⟩
  · have hN : 0 ≤ q.i 128 ∧ q.i 128 < 256 := hN
    obtain ⟨k0, k1⟩ := hN
    have eG : tornG (inVs [.agg cell64, .agg cell64, .one (.int .u8)] q) = .agg (bys (tornI ((List.range 64).map fun j => q.i j) ((List.range 64).map fun j => q.i (64 + j)) (q.i 128))).toArray := rfl
    simp only [eG]
    show Nd.holds _ _ _ tornNd
    unfold tornNd
    simp only [Nd.holds, X.pre, X.rel, X.n, Src.ok, Src.len, Src.vals, true_and, and_true, if_true, Nat.mul_one, Nat.add_zero, Nat.reduceAdd, List.length_cons, List.length_nil, bT_tt, bT_ff, bT_bvar, bT_not, bT_and, bT_or, bT_ite, bT_lt, bT_le, bT_eq, bT_beq, bT_seq, bT_hB, bT_his, bT_hby, bT_hism, bT_hks, iev_lit, iev_var, iev_add, iev_sub, iev_mul, iev_wrap, iev_ite, iev_hI, iev_hP, iev_hmlen, sev_ite, sev_slit, sev_sof, sev_svar, TV.ev, SV.ev, CV.ev, List.map_cons, List.map_nil, Res.hl]
    intro q1 g1 _ q2 g2 _ q3 g3 _
    have G : Agree 129 q q3 := (g1.trans (g2.mono (by omega))).trans (g3.mono (by omega))
    have j128 : q3.i 128 = q.i 128 := G.i 128 (by omega)
    have w0 : IntKind.i64.wrap ((q3.i 128).tmod 128) = (q.i 128).tmod 128 := by
      rw [j128]
      have h1 := Int.tmod_nonneg 128 k0
      have h2 := Int.tmod_lt_of_pos (q.i 128) (by decide : (0 : Int) < 128)
      exact wrap_i64 (by omega) (by omega)
    have m0 : 0 ≤ (q.i 128).tmod 128 := Int.tmod_nonneg _ k0
    have m1 : (q.i 128).tmod 128 < 128 := Int.tmod_lt_of_pos _ (by decide)
    have m2 : (q.i 128).tmod 128 = if q.i 128 < 128 then q.i 128 else q.i 128 - 128 := by
      rw [Int.tmod_eq_emod_of_nonneg k0]; split <;> omega
    have hM : iev q3 eM = min ((q.i 128).tmod 128) 64 := by
      unfold eM
      simp only [iev_ite, iev_wrap, iev_rem, iev_var, iev_lit, bev_lt, w0, decide_eq_true_eq]
      split <;> omega
    have hD : iev q3 eD = 64 - min ((q.i 128).tmod 128) 64 := by
      unfold eD
      rw [iev_wrap, iev_sub, iev_lit, hM]
      exact wrap_i64 (by omega) (by omega)
    have hO : iev q3 eO = if min ((q.i 128).tmod 128) 64 = 0 then 0 else 64 - min ((q.i 128).tmod 128) 64 := by
      unfold eO
      simp only [iev_ite, bev_eq, iev_lit, hD, decide_eq_true_eq]
      split <;> split <;> omega
    rw [hM, hD, hO, j128]
    have out : ∀ (l : List CV) (c : Nat → E), l = (List.range 64).map (fun (j : Nat) => CV.int .u8 (.ite (c j) (.var (64 + j)) (.var j))) → (∀ j : Nat, j < 64 → bev q3 (c j) = stays (q.i 128) j) →
        (TV.sv (.agg l)).ev q3 = .agg (bys (tornI ((List.range 64).map fun j => q.i j) ((List.range 64).map fun j => q.i (64 + j)) (q.i 128))).toArray := by
      intro l c hl hc
      subst hl
      show Value.agg (List.map (CV.ev q3) _).toArray = _
      congr 2
      unfold tornI bys
      rw [List.map_map, List.map_map]
      refine List.map_congr_left fun j hj => ?_
      have hj := List.mem_range.1 hj
      show Value.int .u8 (iev q3 (.ite (c j) (.var (64 + j)) (.var j))) = Value.int .u8 _
      rw [iev_ite, hc j hj, iev_var, iev_var, G.i (64 + j) (by omega), G.i j (by omega)]
      have e1 : ((List.range 64).map fun j => q.i (64 + j)).getD j 0 = q.i (64 + j) := by rw [List.getD_eq_getElem?_getD, List.getElem?_map, List.getElem?_range hj]; rfl
      have e2 : ((List.range 64).map fun j => q.i j).getD j 0 = q.i j := by rw [List.getD_eq_getElem?_getD, List.getElem?_map, List.getElem?_range hj]; rfl
      show _ = Value.int .u8 (if stays (q.i 128) j = true then ((List.range 64).map fun j => q.i (64 + j)).getD j 0 else ((List.range 64).map fun j => q.i j).getD j 0)
      rw [e1, e2]
    refine ⟨fun hlt => ⟨by omega, by omega, ⟨by omega, by omega, by omega⟩, out tornA (fun j => .lt (.lit (j : Int)) eM) rfl fun j hj => ?_⟩, fun hge => ⟨by omega, by omega, ⟨by split <;> omega, by omega, by omega, by split <;> omega⟩, out tornB (fun j => .and (.le eO (.lit (j : Int))) (.lt (.lit (j : Int)) (.add eO (.sub (.lit 64) eD)))) rfl fun j hj => ?_⟩⟩
    · rw [bev_lt, iev_lit, hM]
      unfold stays
      rw [if_pos hlt]
      rw [if_pos hlt] at m2
      congr 1
      exact propext ⟨fun h => by omega, fun h => by omega⟩
    · rw [bev_and, bev_le, bev_lt, iev_lit, iev_add, iev_sub, iev_lit, hD, hO]
      unfold stays
      rw [if_neg hge]
      rw [if_neg hge] at m2
      rw [← Bool.decide_and]
      congr 1
      refine propext ⟨fun h => ?_, fun h => ?_⟩
      · split at h <;> omega
      · split <;> omega
end Go.Proofs.Ytdohcabnaihaoaa
