/- Layer 7: Sync, Fuse, Gone, torn, as contracts. No condition. -/
import Derived.Test.YtomdimlnggpgbaaDoorDskD
import Derived.Test.YtomdimlnggpgbaaDoorSxF
set_option linter.unusedSimpArgs false
set_option linter.unusedVariables false
set_option linter.constructorNameAsVariable false
namespace Go.Proofs.YtomdimlnggpgbaaDoor.D
open Go Go.Sx

def syncR (D : DM) : Int × DM := if D.gone then (5, D) else if D.fuse = 0 then (5, { D with gone := true }) else (0, ⟨D.n, D.now, [], if 0 < D.fuse then D.fuse - 1 else D.fuse, D.gone⟩)
def fuseD (D : DM) (n : Int) : DM := { D with fuse := max n (-1) }
theorem fuseD_ok {D : DM} (h : D.ok) {n : Int} (hn : n ≤ 9223372036854775807) : (fuseD D n).ok := ⟨h.now, h.n, by show -1 ≤ max n (-1); omega, by show max n (-1) ≤ _; omega, h.loose⟩
/-- A way out of a walk over a disk. -/
theorem dOut {H : Hl} {a s m : Nat} {es es' : Array MapEntry} {clock clock' : Nat} {D D' : DM} {x1 x2 x3 x4 x5 : Int} {R : Hl} (h : DiskIn H a s m es clock D) {q : Env} (hq : Agree 15 (dEnv a s m D [x1, x2, x3, x4, x5] es clock R) q) {f g : E} {k1 k2 : Nat} {v1 v2 : List Nat} {t : Mem}
    (hok : D'.ok) (hn : D'.n = D.n) (hm : MapIs .i64 es' (lv D'.loose)) (hst : MapKept.Stamped es' clock') (hf : iev q f = D'.fuse) (hg : bev q g = D'.gone) (h1 : q.h k1 = dNow s D'.now) (h2 : q.h k2 = Hl.one m (.map es' clock')) :
    DiskAt (uni q (.blk 0 [.sl (.var 6) (.var 7) (.var 8) (.var 9), .map (.var 10), .int .i64 f, .bool g] 66 :: .hp k1 v1 [.var 6] [] :: .hp k2 v2 [.var 10] [] :: t) [0, 1, 2]) (.pointer (some ⟨a, 0, none⟩)) D' := by
  refine ⟨a, s, m, es', clock', rfl, dExit hok hm hst h.nas h.nam h.nsm (dBlk (hq.i 0 (by omega)) (hq.i 6 (by omega)) (hq.i 7 (by omega)) ?_ ?_ (hq.i 10 (by omega)) hf hg) h1 h2⟩
  · rw [hq.i 8 (by omega)]; show (D.n : Int) = (D'.n : Int); rw [hn]
  · rw [hq.i 9 (by omega)]; show (D.n : Int) = (D'.n : Int); rw [hn]
def diskPre (xs : List Value) (Hs : List Hl) (p : Value) (D : DM) : Prop := ∃ H rest, xs = p :: rest ∧ Hs = [H] ∧ DiskAt H p D
def syncS : Sx.Spec where
  fn := 106
  own := [.arg 0]
  rd := []
  res := [.one (.int .i64)]
  pre := fun xs Hs Rs => ∃ p H D, xs = [p] ∧ Hs = [H] ∧ DiskAt H p D
  post := fun xs Hs Rs v Hs' F => ∃ p H D H', xs = [p] ∧ Hs = [H] ∧ DiskAt H p D ∧ Hs' = [H'] ∧ DiskAt H' p (syncR D).2 ∧ v = .int .i64 (syncR D).1
def syncNd : Nd := .and (.imp (.not (.bvar 12)) (.and (.imp (.eq (.var 11) (.lit 0)) (.post [.blk 0 [.sl (.var 6) (.var 7) (.var 8) (.var 9), .map (.var 10), .int .i64 (.var 11), .bool .tt] 66, .hp 13 [] [.var 6] [], .hp 14 [] [.var 10] []] (.sv (.one (.int .i64 (.lit 5)))))) (.imp (.not (.eq (.var 11) (.lit 0))) (.and (.imp (.lt (.lit 0) (.var 11)) (.and (.pre (.mclr 15 14 (.var 10))) (.ext (.mclr 15 14 (.var 10)) (.post [.blk 0 [.sl (.var 6) (.var 7) (.var 8) (.var 9), .map (.var 10), .int .i64 (.wrap .i64 (.sub (.var 11) (.lit 1))), .bool (.bvar 12)] 66, .hp 13 [] [.var 6] [], .hp 15 [14] [.var 10] []] (.sv (.one (.int .i64 (.lit 0)))))))) (.imp (.not (.lt (.lit 0) (.var 11))) (.and (.pre (.mclr 15 14 (.var 10))) (.ext (.mclr 15 14 (.var 10)) (.post [.blk 0 [.sl (.var 6) (.var 7) (.var 8) (.var 9), .map (.var 10), .int .i64 (.var 11), .bool (.bvar 12)] 66, .hp 13 [] [.var 6] [], .hp 15 [14] [.var 10] []] (.sv (.one (.int .i64 (.lit 0)))))))))))) (.imp (.bvar 12) (.post [.blk 0 [.sl (.var 6) (.var 7) (.var 8) (.var 9), .map (.var 10), .int .i64 (.var 11), .bool (.bvar 12)] 66, .hp 13 [] [.var 6] [], .hp 14 [] [.var 10] []] (.sv (.one (.int .i64 (.lit 5))))))
def syncW : Walk Tryd.prog [] syncS.fn where
  Λ := noLoops
  args := [TP (.var 0) (.lit 0)]
  mem := dMem
  nv := 15
  nd := syncNd
  ok := by kernel_rfl
theorem syncS_ok : syncS.OK Tryd.prog := by
  refine Spec.of_fn (Γ := []) (fun _ h => by cases h) ?_
  rintro xs Hs Rs hl1 hl2 ⟨p, H, D, rfl, rfl, a, s, m, es, clock, rfl, h⟩
  have e1 : Rs = [] := List.length_eq_zero_iff.1 hl2
  subst e1
  refine ⟨syncW, dEnv a s m D [0, 0, 0, 0, 0] es clock Hl.none, fun _ _ => True, fun _ _ => 0, ?_, dEntry h _ rfl _, (fun _ h => nomatch h), ?_⟩
  · show [Value.pointer (slP (a : Int) 0)] = _; rw [dArg]
  · show Nd.holds _ _ _ syncNd
    unfold syncNd
    simp only [Nd.holds, X.pre, X.rel, X.n, Src.ok, Src.len, Src.vals, true_and, and_true, if_true, Nat.mul_one, Nat.add_zero, Nat.reduceAdd, List.length_cons, List.length_nil, bT_tt, bT_ff, bT_bvar, bT_not, bT_and, bT_or, bT_ite, bT_lt, bT_le, bT_eq, bT_beq, bT_seq, bT_hB, bT_his, bT_hby, bT_hism, bT_hks, iev_lit, iev_var, iev_add, iev_sub, iev_mul, iev_wrap, iev_ite, iev_hI, iev_hP, iev_hmlen, sev_ite, sev_slit, sev_sof, sev_svar, TV.ev, SV.ev, CV.ev, List.map_cons, List.map_nil, Res.hl]
    generalize hρ : dEnv a s m D [0, 0, 0, 0, 0] es clock Hl.none = ρ
    have v10 : ρ.i 10 = m := by rw [← hρ]; rfl
    have v11 : ρ.i 11 = D.fuse := by rw [← hρ]; rfl
    have vb : ρ.b 12 = D.gone := by rw [← hρ]; rfl
    have vh : ρ.h 13 = dNow s D.now := by rw [← hρ]; rfl
    have vm : ρ.h 14 = Hl.one m (.map es clock) := by rw [← hρ]; rfl
    have out : ∀ (q : Env) (f g : E) (k1 k2 : Nat) (w1 w2 : List Nat) (t : Mem) (c : Int) (D' : DM) (es' : Array MapEntry) (clock' : Nat), Agree 15 ρ q → syncR D = (c, D') → D'.ok → D'.n = D.n → MapIs .i64 es' (lv D'.loose) → MapKept.Stamped es' clock' → iev q f = D'.fuse → bev q g = D'.gone → q.h k1 = dNow s D'.now → q.h k2 = Hl.one m (.map es' clock') →
        postOf syncS [.pointer (some ⟨a, 0, none⟩)] [H] [] q (.blk 0 [.sl (.var 6) (.var 7) (.var 8) (.var 9), .map (.var 10), .int .i64 f, .bool g] 66 :: .hp k1 w1 [.var 6] [] :: .hp k2 w2 [.var 10] [] :: t) (.sv (.one (.int .i64 (.lit c)))) := by
      intro q f g k1 k2 w1 w2 t c D' es' clock' hq hs hok hn hm hst hf hg h1 h2 _
      rw [← hρ] at hq
      refine ⟨[[0, 1, 2]], [], rfl, rfl, ⟨⟨fun _ => c, fun _ => false, fun _ => .empty, fun _ => .tuple #[], fun _ => Hl.none⟩, rfl, trivial, trivial⟩, _, H, D, _, rfl, rfl, ⟨a, s, m, es, clock, rfl, h⟩, rfl, ?_, by rw [hs]; rfl⟩
      rw [hs]
      exact dOut h hq hok hn hm hst hf hg h1 h2
    have hmem : (Hl.one m (.map es clock)) ((m : Int)).toNat = some (.map es clock) := by rw [Int.toNat_natCast]; exact Hl.one_self _ _
    have tail : ∀ (f : E), (∀ q, Agree 15 ρ q → iev q f = if 0 < D.fuse then D.fuse - 1 else D.fuse) → D.gone = false → D.fuse ≠ 0 → (0 ≤ ρ.i 10 ∧ ∃ es clock, ρ.h 14 (ρ.i 10).toNat = some (.map es clock)) ∧ ∀ ρ', Agree 15 ρ ρ' → (∀ es clock, ρ.h 14 (ρ.i 10).toNat = some (.map es clock) → ρ'.h 15 = (ρ.h 14).setObj (ρ.i 10).toNat (.map #[] clock)) →
        postOf syncS [.pointer (some ⟨a, 0, none⟩)] [H] [] ρ' [.blk 0 [.sl (.var 6) (.var 7) (.var 8) (.var 9), .map (.var 10), .int .i64 f, .bool (.bvar 12)] 66, .hp 13 [] [.var 6] [], .hp 15 [14] [.var 10] []] (.sv (.one (.int .i64 (.lit 0)))) := by
      intro f hf hg hz
      rw [v10, vm]
      refine ⟨⟨by omega, es, clock, hmem⟩, fun q gq hq => ?_⟩
      have hq := hq es clock hmem
      rw [Int.toNat_natCast, Hl.one_setObj] at hq
      refine out q f (.bvar 12) 13 15 _ _ _ 0 ⟨D.n, D.now, [], if 0 < D.fuse then D.fuse - 1 else D.fuse, D.gone⟩ #[] clock gq ?_ ⟨h.ok.now, h.ok.n, ?_, ?_, fun p hp => by cases hp⟩ rfl rfl (MapKept.stamped_empty _) (hf q gq) (by rw [bev_bvar, gq.b 12 (by omega), vb]) (by rw [gq.h 13 (by omega), vh]) hq
      · unfold syncR; rw [if_neg (by rw [hg]; simp), if_neg hz]
      · have := h.ok.f0; show -1 ≤ (if 0 < D.fuse then D.fuse - 1 else D.fuse); split <;> omega
      · have := h.ok.f1; show (if 0 < D.fuse then D.fuse - 1 else D.fuse) ≤ _; split <;> omega
    rw [vb, v11]
    have f0 := h.ok.f0
    have f1 := h.ok.f1
    refine ⟨fun hg => ⟨fun hz => ?_, fun hz => ⟨fun hp => tail _ (fun q gq => ?_) (Bool.eq_false_iff.2 hg) hz, fun hp => tail _ (fun q gq => ?_) (Bool.eq_false_iff.2 hg) hz⟩⟩, fun hg => ?_⟩
    · refine out ρ _ _ _ _ _ _ _ 5 { D with gone := true } es clock (Agree.refl _ _) ?_ ⟨h.ok.now, h.ok.n, h.ok.f0, h.ok.f1, h.ok.loose⟩ rfl h.map h.st (by rw [iev_var, v11]) (bev_tt _) vh vm
      unfold syncR; rw [if_neg hg, if_pos hz]
    · rw [if_pos hp, iev_wrap, iev_sub, iev_var, iev_lit, gq.i 11 (by omega), v11]
      exact wrap_i64 (by omega) (by omega)
    · rw [if_neg hp, iev_var, gq.i 11 (by omega), v11]
    · refine out ρ _ _ _ _ _ _ _ 5 D es clock (Agree.refl _ _) ?_ h.ok rfl h.map h.st (by rw [iev_var, v11]) (by rw [bev_bvar, vb]) vh vm
      unfold syncR; rw [if_pos hg]
def intsOf (v : Value) : List Int := (cellsV v).map fun c => valI (some c)
theorem intsOf_bys (l : List Int) : intsOf (.agg (bys l).toArray) = l := by
  show ((l.map (Value.int .u8)).map fun c => valI (some c)) = l
  rw [List.map_map]
  exact List.map_id l
theorem rowOK_bys : ∀ (n : Nat) (l : List Int), l.length = n → rowOK (bys l) ((List.replicate n (Ck.int .u8)).map kdOf)
  | 0, [], _ => trivial
  | n + 1, x :: l, h => ⟨by simp [valIs, kdOf], rowOK_bys n l (by simpa using h)⟩
  | 0, _ :: _, h => by simp at h
  | _ + 1, [], h => by simp at h
end Go.Proofs.YtomdimlnggpgbaaDoor.D
