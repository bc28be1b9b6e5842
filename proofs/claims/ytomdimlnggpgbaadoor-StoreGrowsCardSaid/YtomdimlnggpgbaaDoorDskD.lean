/- Layer 7: Write, as a contract. No condition. -/
import Derived.Test.YtomdimlnggpgbaaDoorDskC
set_option linter.unusedSimpArgs false
set_option linter.unusedVariables false
set_option linter.constructorNameAsVariable false
namespace Go.Proofs.YtomdimlnggpgbaaDoor.D
open Go Go.Sx

def putD (D : DM) (i : Int) (bs : List Int) : DM := ⟨D.n, splice D.now (64 * i.toNat) bs, if (mapGo i (lv D.loose) 0).isSome then D.loose else D.loose ++ [(i, D.sector i)], if 0 < D.fuse then D.fuse - 1 else D.fuse, false⟩
def writeR (D : DM) (i : Int) (bs : List Int) : Int × DM :=
  if D.has i = false ∨ bs.length ≠ 64 then (1, D) else if D.gone then (5, D) else if D.fuse = 0 then (5, { D with gone := true }) else (0, putD D i bs)
def writeG (rdP : Hl → Value → List Int → Prop) : Sx.Spec where
  fn := 19
  own := [.arg 0]
  rd := [2]
  res := [.one (.int .i64)]
  pre := fun xs Hs Rs => ∃ p i u bs H R D, xs = [p, .int .i64 i, u] ∧ Hs = [H] ∧ Rs = [R] ∧ DiskAt H p D ∧ rdP R u bs
  post := fun xs Hs Rs v Hs' F => ∃ p i u bs H R D H', xs = [p, .int .i64 i, u] ∧ Hs = [H] ∧ Rs = [R] ∧ DiskAt H p D ∧ rdP R u bs ∧ Hs' = [H'] ∧ DiskAt H' p (writeR D i bs).2 ∧ v = .int .i64 (writeR D i bs).1
def writeS : Sx.Spec := writeG RdB
def writeTail (f : E) : Nd := .and (.pre (.mget 16 14 (.var 10) (.int .i64) (.int .i64 (.var 1)) (.agg (List.replicate 64 (CV.int .u8 (.lit 0)))) (List.replicate 64 (Ck.int .u8)) true)) (.ext (.mget 16 14 (.var 10) (.int .i64) (.int .i64 (.var 1)) (.agg (List.replicate 64 (CV.int .u8 (.lit 0)))) (List.replicate 64 (Ck.int .u8)) true) (.ext (.alloc 81) (.and (.imp (.not (.bvar 80)) (.and (.e (.le (.lit 0) (.var 6))) (.and (.e (.le (.lit 0) (.var 7))) (.and (.e (.hby 13 (.var 6) (.add (.var 7) (.mul (.var 1) (.lit 64))) (.lit 64))) (.and (.pre (.mset 82 14 (.var 10) (.int .i64) (.int .i64 (.var 1)) (.agg (romCells 13 (.var 6) (.add (.var 7) (.mul (.var 1) (.lit 64))) 0 (List.replicate 64 (Kd.int .u8)))))) (.ext (.mset 82 14 (.var 10) (.int .i64) (.int .i64 (.var 1)) (.agg (romCells 13 (.var 6) (.add (.var 7) (.mul (.var 1) (.lit 64))) 0 (List.replicate 64 (Kd.int .u8))))) (.and (.e (.le (.lit 0) (.var 2))) (.and (.e (.le (.lit 0) (.var 3))) (.and (.e (.hby 15 (.var 2) (.var 3) (.lit 64))) (.and (.pre (.put 83 13 (.var 6) (.add (.var 7) (.mul (.var 1) (.lit 64))) (romCells 15 (.var 2) (.var 3) 0 (List.replicate 64 (Kd.int .u8))))) (.ext (.put 83 13 (.var 6) (.add (.var 7) (.mul (.var 1) (.lit 64))) (romCells 15 (.var 2) (.var 3) 0 (List.replicate 64 (Kd.int .u8)))) (.post [.blk 0 [.sl (.var 6) (.var 7) (.var 8) (.var 9), .map (.var 10), .int .i64 f, .bool (.bvar 12)] 66, .hp 83 [13] [.var 6] [], .hp 82 [14] [.var 10] [], .ro 15 [.var 2] false, .dead] (.sv (.one (.int .i64 (.lit 0)))))))))))))))) (.imp (.bvar 80) (.and (.e (.le (.lit 0) (.var 2))) (.and (.e (.le (.lit 0) (.var 3))) (.and (.e (.hby 15 (.var 2) (.var 3) (.lit 64))) (.and (.e (.le (.lit 0) (.var 6))) (.and (.e (.le (.lit 0) (.var 7))) (.and (.pre (.put 82 13 (.var 6) (.add (.var 7) (.mul (.var 1) (.lit 64))) (romCells 15 (.var 2) (.var 3) 0 (List.replicate 64 (Kd.int .u8))))) (.ext (.put 82 13 (.var 6) (.add (.var 7) (.mul (.var 1) (.lit 64))) (romCells 15 (.var 2) (.var 3) 0 (List.replicate 64 (Kd.int .u8)))) (.post [.blk 0 [.sl (.var 6) (.var 7) (.var 8) (.var 9), .map (.var 10), .int .i64 f, .bool (.bvar 12)] 66, .hp 82 [13] [.var 6] [], .hp 14 [] [.var 10] [], .ro 15 [.var 2] false, .dead] (.sv (.one (.int .i64 (.lit 0))))))))))))))))
def writeNd : Nd := .and (.imp (.le (.lit 0) (.var 1)) (.and (.e (.le (.lit 0) (.var 8))) (.and (.imp (.lt (.var 1) (.var 8)) (.and (.e (.le (.lit 0) (.var 4))) (.and (.imp (.not (.eq (.var 4) (.lit 64))) (.post [.blk 0 [.sl (.var 6) (.var 7) (.var 8) (.var 9), .map (.var 10), .int .i64 (.var 11), .bool (.bvar 12)] 66, .hp 13 [] [.var 6] [], .hp 14 [] [.var 10] [], .ro 15 [.var 2] false] (.sv (.one (.int .i64 (.lit 1)))))) (.imp (.eq (.var 4) (.lit 64)) (.and (.imp (.not (.bvar 12)) (.and (.imp (.eq (.var 11) (.lit 0)) (.post [.blk 0 [.sl (.var 6) (.var 7) (.var 8) (.var 9), .map (.var 10), .int .i64 (.var 11), .bool .tt] 66, .hp 13 [] [.var 6] [], .hp 14 [] [.var 10] [], .ro 15 [.var 2] false] (.sv (.one (.int .i64 (.lit 5)))))) (.imp (.not (.eq (.var 11) (.lit 0))) (.and (.imp (.lt (.lit 0) (.var 11)) (writeTail (.wrap .i64 (.sub (.var 11) (.lit 1))))) (.imp (.not (.lt (.lit 0) (.var 11))) (writeTail (.var 11))))))) (.imp (.bvar 12) (.post [.blk 0 [.sl (.var 6) (.var 7) (.var 8) (.var 9), .map (.var 10), .int .i64 (.var 11), .bool (.bvar 12)] 66, .hp 13 [] [.var 6] [], .hp 14 [] [.var 10] [], .ro 15 [.var 2] false] (.sv (.one (.int .i64 (.lit 5))))))))))) (.imp (.not (.lt (.var 1) (.var 8))) (.post [.blk 0 [.sl (.var 6) (.var 7) (.var 8) (.var 9), .map (.var 10), .int .i64 (.var 11), .bool (.bvar 12)] 66, .hp 13 [] [.var 6] [], .hp 14 [] [.var 10] [], .ro 15 [.var 2] false] (.sv (.one (.int .i64 (.lit 1))))))))) (.imp (.not (.le (.lit 0) (.var 1))) (.post [.blk 0 [.sl (.var 6) (.var 7) (.var 8) (.var 9), .map (.var 10), .int .i64 (.var 11), .bool (.bvar 12)] 66, .hp 13 [] [.var 6] [], .hp 14 [] [.var 10] [], .ro 15 [.var 2] false] (.sv (.one (.int .i64 (.lit 1))))))
def writeW : Walk Tryd.prog [] 19 where
  Λ := noLoops
  args := [TP (.var 0) (.lit 0), TI .i64 (.var 1), .sv (.one (.sl (.var 2) (.var 3) (.var 4) (.var 5)))]
  mem := dMem ++ [.ro 15 [.var 2] false]
  nv := 16
  nd := writeNd
  ok := by kernel_rfl
theorem ckOf_bys (l : List Int) : (bys l).map ckOf = List.replicate l.length (.int .u8) := by
  unfold bys
  rw [List.map_map]
  induction l with
  | nil => rfl
  | cons a l ih => rw [List.map_cons, List.length_cons, List.replicate_succ, ih]; rfl
theorem putD_ok {D : DM} (h : D.ok) {i : Int} (hi : D.has i = true) {bs : List Int} (hb : bs.length = 64) : (putD D i bs).ok := by
  have hh : 0 ≤ i ∧ i < D.n := by unfold DM.has at hi; simpa using hi
  refine ⟨?_, h.n, ?_, ?_, fun p hp => ?_⟩
  · show (splice D.now (64 * i.toNat) bs).length = _
    rw [splice_length (by rw [h.now]; omega), h.now]; rfl
  · have := h.f0
    show (-1 : Int) ≤ if 0 < D.fuse then D.fuse - 1 else D.fuse
    split <;> omega
  · have := h.f1
    show (if 0 < D.fuse then D.fuse - 1 else D.fuse) ≤ (9223372036854775807 : Int)
    split <;> omega
  · have hp : p ∈ (if (mapGo i (lv D.loose) 0).isSome then D.loose else D.loose ++ [(i, D.sector i)]) := hp
    split at hp
    · exact h.loose p hp
    · rcases List.mem_append.1 hp with hp | hp
      · exact h.loose p hp
      · rw [List.mem_singleton] at hp; subst hp
        exact ⟨sector_length h hi, hh.1, hh.2⟩
theorem lv_append (a : List (Int × List Int)) (i : Int) (l : List Int) : lv (a ++ [(i, l)]) = lv a ++ [(i, .agg (bys l).toArray)] := by simp [lv]
theorem dNow_put (s y : Nat) (now bs : List Int) : (dNow s now).put s y (bys bs) = dNow s (splice now y bs) := by
  unfold dNow
  rw [Hl.one_put, ← splice_bys]
theorem now_get {D : DM} (h : D.ok) {i : Int} (hi : D.has i = true) (s : Nat) : ∀ j z, (D.sector i)[j]? = some z → (dNow s D.now).cell s (64 * i.toNat + j) = some (.int .u8 z) := by
  intro j z hz
  have hl := sector_length h hi
  have hj : j < 64 := by have := (List.getElem?_eq_some_iff.1 hz).1; omega
  rw [now_cell, ← sector_get h hi hj, hz]; rfl
theorem writeG_ok {rdP : Hl → Value → List Int → Prop} (hw : ∀ {R u bs}, rdP R u bs → RdW R u bs) : (writeG rdP).OK Tryd.prog := by
  refine Spec.of_fn (Γ := []) (fun _ h => by cases h) ?_
  rintro xs Hs Rs hl1 hl2 ⟨p, i, u, bs, H, R, D, rfl, rfl, rfl, ⟨a, s, m, es, clock, rfl, h⟩, hRd⟩
  obtain ⟨x, y, cp, rfl, hy, hR⟩ := hw hRd
  refine ⟨writeW, dEnv a s m D [i, x, y, bs.length, cp] es clock R, fun _ _ => True, fun _ _ => 0, ?_, dEntry2 h _ rfl _ _, (fun _ h => nomatch h), ?_⟩
  · show [Value.pointer (slP (a : Int) 0), Value.int .i64 i, Value.slice (slP x y) ((bs.length : Int)).toNat ((cp : Int)).toNat] = _
    rw [dArg, Int.toNat_natCast, Int.toNat_natCast]
  · show Nd.holds _ _ _ writeNd
    generalize hρ : dEnv a s m D [i, x, y, bs.length, cp] es clock R = ρ
    have v0 : ρ.i 0 = a := by rw [← hρ]; rfl
    have v1 : ρ.i 1 = i := by rw [← hρ]; rfl
    have v2 : ρ.i 2 = x := by rw [← hρ]; rfl
    have v3 : ρ.i 3 = y := by rw [← hρ]; rfl
    have v4 : ρ.i 4 = bs.length := by rw [← hρ]; rfl
    have v6 : ρ.i 6 = s := by rw [← hρ]; rfl
    have v7 : ρ.i 7 = 0 := by rw [← hρ]; rfl
    have v8 : ρ.i 8 = D.n := by rw [← hρ]; rfl
    have v9 : ρ.i 9 = D.n := by rw [← hρ]; rfl
    have v10 : ρ.i 10 = m := by rw [← hρ]; rfl
    have v11 : ρ.i 11 = D.fuse := by rw [← hρ]; rfl
    have vb : ρ.b 12 = D.gone := by rw [← hρ]; rfl
    have vh : ρ.h 13 = dNow s D.now := by rw [← hρ]; rfl
    have vm : ρ.h 14 = Hl.one m (.map es clock) := by rw [← hρ]; rfl
    have vr : ρ.h 15 = R := by rw [← hρ]; rfl
    have hI : ∀ q, Agree 16 ρ q → ∀ k, k < 16 → q.i k = ρ.i k := fun q g => g.i
    have ent : DiskAt H (.pointer (some ⟨a, 0, none⟩)) D := ⟨a, s, m, es, clock, rfl, h⟩
    -- a way out: the pieces, and the answer
    have out : ∀ (q : Env) (f g : E) (k1 k2 : Nat) (t : Mem) (ts : List E) (v1 v2 : List Nat) (c : Int) (D' : DM) (es' : Array MapEntry) (clock' : Nat), Agree 16 ρ q → writeR D i bs = (c, D') → D'.ok → D'.n = D.n → (MapIs .i64 es' (lv D'.loose) ∧ MapKept.Stamped es' clock') → iev q f = D'.fuse → bev q g = D'.gone → q.h k1 = dNow s D'.now → q.h k2 = Hl.one m (.map es' clock') →
        postOf (writeG rdP) [.pointer (some ⟨a, 0, none⟩), .int .i64 i, .slice (slP x y) bs.length cp] [H] [R] q
          (.blk 0 [.sl (.var 6) (.var 7) (.var 8) (.var 9), .map (.var 10), .int .i64 f, .bool g] 66 :: .hp k1 v1 [.var 6] [] :: .hp k2 v2 [.var 10] [] :: t) (.sv (.one (.int .i64 (.lit c)))) := by
      intro q f g k1 k2 t ts w1 w2 c D' es' clock' hq hw hok hn hm hf hg h1 h2 _
      refine ⟨[[0, 1, 2]], [], rfl, rfl, ⟨⟨fun _ => c, fun _ => false, fun _ => .empty, fun _ => .tuple #[], fun _ => Hl.none⟩, rfl, trivial, trivial⟩, _, i, _, bs, H, R, D, _, rfl, rfl, rfl, ent, hRd, rfl, ⟨a, s, m, es', clock', rfl, ?_⟩, by rw [hw]; rfl⟩
      rw [hw]
      refine dExit hok hm.1 hm.2 h.nas h.nam h.nsm (dBlk ?_ ?_ ?_ ?_ ?_ ?_ hf hg) h1 h2
      · rw [hq.i 0 (by omega), v0]
      · rw [hq.i 6 (by omega), v6]
      · rw [hq.i 7 (by omega), v7]
      · rw [hq.i 8 (by omega), v8]; show (D.n : Int) = (D'.n : Int); rw [hn]
      · rw [hq.i 9 (by omega), v9]; show (D.n : Int) = (D'.n : Int); rw [hn]
      · rw [hq.i 10 (by omega), v10]
    have tail : ∀ f : E, (∀ q, Agree 16 ρ q → iev q f = if 0 < D.fuse then D.fuse - 1 else D.fuse) → D.has i = true → bs.length = 64 → D.gone = false → D.fuse ≠ 0 → (writeTail f).holds ⟨[], fun _ _ => True, fun _ _ => 0, postOf (writeG rdP) [.pointer (some ⟨a, 0, none⟩), .int .i64 i, .slice (slP x y) bs.length cp] [H] [R]⟩ (fun _ => 0) ρ := by
      intro f hf hi hb hg hz
      have hh : 0 ≤ i ∧ i < D.n := by unfold DM.has at hi; simpa using hi
      have hw : writeR D i bs = (0, putD D i bs) := by
        unfold writeR
        rw [if_neg (by rw [hi, hb]; simp), if_neg (by rw [hg]; simp), if_neg hz]
      have hx : 0 ≤ x ∧ ∀ j z, bs[j]? = some z → R.cell x.toNat (y.toNat + j) = some (.int .u8 z) := by
        rcases hR with h | h
        · rw [h] at hb; cases hb
        · exact h
      have hpok := putD_ok h.ok hi hb
      have hsl := sector_length h.ok hi
      unfold writeTail
      simp only [Nd.holds, X.pre, X.rel, X.n, Src.ok, Src.len, Src.vals, true_and, and_true, if_true, Nat.mul_one, Nat.add_zero, Nat.reduceAdd, List.length_cons, List.length_nil, bT_tt, bT_ff, bT_bvar, bT_not, bT_and, bT_or, bT_ite, bT_lt, bT_le, bT_eq, bT_beq, bT_seq, bT_hB, bT_his, bT_hby, bT_hism, bT_hks, iev_lit, iev_var, iev_add, iev_sub, iev_mul, iev_wrap, iev_ite, iev_hI, iev_hP, iev_hmlen, sev_ite, sev_slit, sev_sof, sev_svar, TV.ev, SV.ev, CV.ev, List.map_cons, List.map_nil, Res.hl]
      rw [v10, v1, vm]
      have hmem : (Hl.one m (.map es clock)) ((m : Int)).toNat = some (.map es clock) := by rw [Int.toNat_natCast]; exact Hl.one_self _ _
      refine ⟨⟨by omega, es, clock, _, hmem, mapFind_int h.map i, ?_⟩, fun q1 g1 hq1 q2 g2 _ => ?_⟩
      · intro j v hv
        obtain ⟨_, hv⟩ := mapGo_some hv
        unfold lv at hv
        rw [List.getElem?_map, Option.map_eq_some_iff] at hv
        obtain ⟨p, hp, he⟩ := hv
        cases he
        have := (h.ok.loose p (List.mem_of_getElem? hp)).1
        refine ⟨_, rfl, ?_⟩
        show (bys p.2).map ckOf = _
        rw [ckOf_bys, this]
      · obtain ⟨_, hb80⟩ := hq1 es clock _ hmem (mapFind_int h.map i)
        have hb80 : q1.b 80 = (mapGo i (lv D.loose) 0).isSome := hb80
        have e80 : q2.b 80 = (mapGo i (lv D.loose) 0).isSome := by rw [g2.b 80 (by omega), hb80]
        have g12 : Agree 16 ρ q2 := g1.trans (g2.mono (by omega))
        -- what is read of the given bytes
        have hby : ∀ q, Agree 16 ρ q → cellBytes (q.h 15) (q.i 2).toNat (q.i 3).toNat (Int.toNat 64) = true := by
          intro q g
          rw [g.h 15 (by omega), g.i 2 (by omega), g.i 3 (by omega), vr, v2, v3]
          exact cells_bytes hx.2 (by rw [hb]; decide)
        have hcs : ∀ q, Agree 16 ρ q → (romCells 15 (.var 2) (.var 3) 0 (List.replicate 64 (Kd.int .u8))).map (CV.ev q) = bys bs := by
          intro q g
          refine romCells_ev 64 0 bs hb fun j z hz => ?_
          rw [g.h 15 (by omega), iev_var, iev_var, g.i 2 (by omega), g.i 3 (by omega), vr, v2, v3, Nat.zero_add]
          exact hx.2 j z hz
        have hat : ∀ q, Agree 16 ρ q → (q.i 7 + q.i 1 * 64).toNat = 64 * i.toNat := by
          intro q g
          rw [g.i 7 (by omega), g.i 1 (by omega), v7, v1]; omega
        have hwr : ∀ q, Agree 16 ρ q → 0 ≤ q.i 6 ∧ 0 ≤ q.i 7 + q.i 1 * 64 ∧ (q.h 13).wr (q.i 6).toNat (q.i 7 + q.i 1 * 64).toNat (romCells 15 (.var 2) (.var 3) 0 (List.replicate 64 (Kd.int .u8))).length = true := by
          intro q g
          have := hat q g
          refine ⟨by rw [g.i 6 (by omega), v6]; omega, by rw [g.i 7 (by omega), g.i 1 (by omega), v7, v1]; omega, ?_⟩
          rw [this, g.h 13 (by omega), g.i 6 (by omega), vh, v6, romCells_length, List.length_replicate, Int.toNat_natCast]
          exact Hl.one_wr _ _ _ _ _ (by rw [List.size_toArray, bys_length, h.ok.now]; omega)
        have hput : ∀ q, Agree 16 ρ q → (q.h 13).put (q.i 6).toNat (q.i 7 + q.i 1 * 64).toNat (bys bs) = dNow s (putD D i bs).now := by
          intro q g
          rw [hat q g, g.h 13 (by omega), g.i 6 (by omega), vh, v6, Int.toNat_natCast, dNow_put]
          rfl
        have n2 : ∀ q, Agree 16 ρ q → 0 ≤ q.i 2 ∧ 0 ≤ q.i 3 ∧ 0 ≤ q.i 6 ∧ 0 ≤ q.i 7 := by
          intro q g
          rw [g.i 2 (by omega), g.i 3 (by omega), g.i 6 (by omega), g.i 7 (by omega), v2, v3, v6, v7]
          exact ⟨hx.1, hy, by omega, by omega⟩
        refine ⟨fun hnb => ?_, fun hyb => ?_⟩
        · have hnone : mapGo i (lv D.loose) 0 = none := by
            rw [e80] at hnb
            cases hgo : mapGo i (lv D.loose) 0 with
            | none => rfl
            | some v => rw [hgo] at hnb; simp at hnb
          obtain ⟨es', hmp, hmi, hmst⟩ := mapPut_st h.map hnone (.agg (bys (D.sector i)).toArray) h.st
          have c13 : cellBytes (q2.h 13) (q2.i 6).toNat (q2.i 7 + q2.i 1 * 64).toNat (Int.toNat 64) = true := by
            rw [hat q2 g12, g12.h 13 (by omega), g12.i 6 (by omega), vh, v6, Int.toNat_natCast]
            exact cells_bytes (now_get h.ok hi s) (by rw [hsl]; decide)
          have hsec : (romCells 13 (.var 6) (.add (.var 7) (.mul (.var 1) (.lit 64))) 0 (List.replicate 64 (Kd.int .u8))).map (CV.ev q2) = bys (D.sector i) := by
            refine romCells_ev 64 0 _ hsl fun j z hz => ?_
            simp only [iev_add, iev_mul, iev_var, iev_lit]
            rw [hat q2 g12, g12.h 13 (by omega), g12.i 6 (by omega), vh, v6, Int.toNat_natCast, Nat.zero_add]
            exact now_get h.ok hi s j z hz
          have hm2 : q2.h 14 (q2.i 10).toNat = some (.map es clock) := by
            rw [g12.h 14 (by omega), g12.i 10 (by omega), vm, v10]; exact hmem
          refine ⟨(n2 q2 g12).2.2.1, (n2 q2 g12).2.2.2, c13, ⟨by rw [g12.i 10 (by omega), v10]; omega, es, clock, _, hm2, mapFind_int h.map _⟩, fun q3 g3 hq3 => ?_⟩
          have g13 : Agree 16 ρ q3 := g12.trans (g3.mono (by omega))
          have h82 := hq3 es clock hm2
          rw [hsec, g12.i 1 (by omega), v1, hmp, g12.h 14 (by omega), g12.i 10 (by omega), vm, v10, Int.toNat_natCast, Hl.one_setObj] at h82
          refine ⟨(n2 q3 g13).1, (n2 q3 g13).2.1, hby q3 g13, hwr q3 g13, fun q4 g4 hq4 => ?_⟩
          have g14 : Agree 16 ρ q4 := g13.trans (g4.mono (by omega))
          rw [hcs q3 g13, hput q3 g13] at hq4
          refine out q4 _ _ _ _ _ [] _ _ 0 (putD D i bs) es' (clock + 1) g14 hw hpok rfl ?_ (hf q4 g14) (by rw [bev_bvar, g14.b 12 (by omega), vb, hg]; rfl) hq4 (by rw [g4.h 82 (by omega), h82])
          have el : (putD D i bs).loose = D.loose ++ [(i, D.sector i)] := by
            show (if (mapGo i (lv D.loose) 0).isSome then D.loose else D.loose ++ [(i, D.sector i)]) = _
            rw [hnone]; rfl
          rw [el, lv_append]
          exact ⟨hmi, hmst⟩
        · have el : (putD D i bs).loose = D.loose := by
            show (if (mapGo i (lv D.loose) 0).isSome then D.loose else D.loose ++ [(i, D.sector i)]) = _
            rw [← e80, hyb]; rfl
          refine ⟨(n2 q2 g12).1, (n2 q2 g12).2.1, hby q2 g12, (n2 q2 g12).2.2.1, (n2 q2 g12).2.2.2, hwr q2 g12, fun q3 g3 hq3 => ?_⟩
          have g13 : Agree 16 ρ q3 := g12.trans (g3.mono (by omega))
          rw [hcs q2 g12, hput q2 g12] at hq3
          exact out q3 _ _ _ _ _ [] _ _ 0 (putD D i bs) es clock g13 hw hpok rfl (by rw [el]; exact ⟨h.map, h.st⟩) (hf q3 g13) (by rw [bev_bvar, g13.b 12 (by omega), vb, hg]; rfl) hq3 (by rw [g13.h 14 (by omega), vm])
    unfold writeNd
    simp only [Nd.holds, X.pre, X.rel, X.n, Src.ok, Src.len, Src.vals, true_and, and_true, if_true, Nat.mul_one, Nat.add_zero, Nat.reduceAdd, List.length_cons, List.length_nil, bT_tt, bT_ff, bT_bvar, bT_not, bT_and, bT_or, bT_ite, bT_lt, bT_le, bT_eq, bT_beq, bT_seq, bT_hB, bT_his, bT_hby, bT_hism, bT_hks, iev_lit, iev_var, iev_add, iev_sub, iev_mul, iev_wrap, iev_ite, iev_hI, iev_hP, iev_hmlen, sev_ite, sev_slit, sev_sof, sev_svar, TV.ev, SV.ev, CV.ev, List.map_cons, List.map_nil, Res.hl]
    rw [v1, v4, v8, v11, vb]
    have bad : ∀ c : Int, writeR D i bs = (c, D) → postOf (writeG rdP) [.pointer (some ⟨a, 0, none⟩), .int .i64 i, .slice (slP x y) bs.length cp] [H] [R] ρ
          (.blk 0 [.sl (.var 6) (.var 7) (.var 8) (.var 9), .map (.var 10), .int .i64 (.var 11), .bool (.bvar 12)] 66 :: .hp 13 [] [.var 6] [] :: .hp 14 [] [.var 10] [] :: [.ro 15 [.var 2] false]) (.sv (.one (.int .i64 (.lit c)))) := fun c hc =>
      out ρ _ _ _ _ _ [] _ _ c D es clock (Agree.refl _ _) hc h.ok rfl ⟨h.map, h.st⟩ (by rw [iev_var, v11]) (by rw [bev_bvar, vb]) vh vm
    have yes : 0 ≤ i → i < D.n → D.has i = true := fun h0 h1 => by unfold DM.has; simp [h0, h1]
    refine ⟨fun h0 => ⟨by omega, fun hn => ⟨by omega, fun hb => bad 1 ?_, fun hb => ⟨fun hg => ⟨fun hz => ?_, fun hz => ⟨fun hp => ?_, fun hp => ?_⟩⟩, fun hg => bad 5 ?_⟩⟩, fun hn => bad 1 ?_⟩, fun h0 => bad 1 ?_⟩
    · unfold writeR; rw [if_pos (Or.inr (by omega))]
    · have hw : writeR D i bs = (5, { D with gone := true }) := by
        unfold writeR; rw [if_neg (by rw [yes h0 hn]; simp; omega), if_neg hg, if_pos hz]
      exact out ρ _ _ _ _ _ [] _ _ 5 { D with gone := true } es clock (Agree.refl _ _) hw ⟨h.ok.now, h.ok.n, h.ok.f0, h.ok.f1, h.ok.loose⟩ rfl ⟨h.map, h.st⟩ (by rw [iev_var, v11]) (by rw [bev_tt]) vh vm
    · refine tail _ (fun q g => ?_) (yes h0 hn) (by omega) (by simpa using hg) hz
      have := h.ok.f1
      rw [iev_wrap, iev_sub, iev_var, iev_lit, g.i 11 (by omega), v11, if_pos hp, wrap_i64 (by omega) (by omega)]
    · refine tail _ (fun q g => ?_) (yes h0 hn) (by omega) (by simpa using hg) hz
      rw [iev_var, g.i 11 (by omega), v11, if_neg hp]
    · unfold writeR; rw [if_neg (by rw [yes h0 hn]; simp; omega), if_pos hg]
    · unfold writeR DM.has; rw [if_pos (Or.inl (by simp only [decide_eq_false_iff_not]; omega))]
    · unfold writeR DM.has; rw [if_pos (Or.inl (by simp only [decide_eq_false_iff_not]; omega))]
theorem writeS_ok : writeS.OK Tryd.prog := writeG_ok fun h => h.w
def writeWS : Sx.Spec := writeG RdW
theorem writeWS_ok : writeWS.OK Tryd.prog := writeG_ok fun h => h
end Go.Proofs.YtomdimlnggpgbaaDoor.D
