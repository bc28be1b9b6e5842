/- Layer 7: what a disk is, piece by piece; New, Sectors, Loose, as contracts. No condition. -/
import Derived.Test.YtomdimlnggpgbaaDoorDskA
import Derived.MapKept
set_option linter.unusedSimpArgs false
set_option linter.unusedVariables false
set_option linter.constructorNameAsVariable false
namespace Go.Proofs.YtomdimlnggpgbaaDoor.D
open Go Go.Sx

/-- A new entry, behind the others. -/
theorem mapPut_st {k : IntKind} {es : Array MapEntry} {l : List (Int × Value)} (h : MapIs k es l) {i : Int} (hn : mapGo i l 0 = none) (v : Value) {clock : Nat} (hs : MapKept.Stamped es clock) :
    ∃ es', mapPut (.int k) (.int k i) v es clock = .map es' (clock + 1) ∧ MapIs k es' (l ++ [(i, v)]) ∧ MapKept.Stamped es' (clock + 1) := by
  refine ⟨es.push ⟨.int k i, v, clock⟩, ?_, ?_, MapKept.stamped_push hs fun x hx he => ?_⟩
  · unfold mapPut
    rw [mapFind_int h, hn]
  · unfold MapIs at h ⊢
    rw [Array.toList_push, List.map_append, List.map_append, h]
    rfl
  · have : (x.key, x.val) ∈ l.map fun p => (Value.int k p.1, p.2) := by
      rw [← show es.toList.map (fun e => (e.key, e.val)) = _ from h]
      exact List.mem_map.2 ⟨x, hx, rfl⟩
    obtain ⟨q, hq, e⟩ := List.mem_map.1 this
    have h1 := mapGo_none.1 hn q hq
    rw [Prod.mk.injEq] at e
    rw [he] at e
    exact h1 (Value.int.inj e.1).2

/-- A disk: how many sectors, their bytes, what is loose, the fuse, whether the power is gone. -/
structure DM where
  n : Nat
  now : List Int
  loose : List (Int × List Int)
  fuse : Int
  gone : Bool
structure DM.ok (D : DM) : Prop where
  now : D.now.length = 64 * D.n
  n : D.n ≤ 16384
  f0 : -1 ≤ D.fuse
  f1 : D.fuse ≤ 9223372036854775807
  loose : ∀ p ∈ D.loose, p.2.length = 64 ∧ 0 ≤ p.1 ∧ p.1 < D.n
def lv (l : List (Int × List Int)) : List (Int × Value) := l.map fun p => (p.1, .agg (bys p.2).toArray)
def dStruct (a s m n : Nat) (fuse : Int) (gone : Bool) : Hl := Hl.one a (.cells #[.slice (some ⟨s, 0, none⟩) n n, .map (some m), .int .i64 fuse, .bool gone] 66 (0, 0))
def dNow (s : Nat) (now : List Int) : Hl := Hl.one s (.cells (bys now).toArray 92 (0, 0))
structure DiskIn (H : Hl) (a s m : Nat) (es : Array MapEntry) (clock : Nat) (D : DM) : Prop where
  ok : D.ok
  map : MapIs .i64 es (lv D.loose)
  st : MapKept.Stamped es clock
  nas : a ≠ s
  nam : a ≠ m
  nsm : s ≠ m
  hl : H = hls [dStruct a s m D.n D.fuse D.gone, dNow s D.now, Hl.one m (.map es clock)]
/-- What a pointer to a disk reaches. -/
def DiskAt (H : Hl) (v : Value) (D : DM) : Prop := ∃ a s m es clock, v = .pointer (some ⟨a, 0, none⟩) ∧ DiskIn H a s m es clock D

/-- The pieces of a disk, one by one. -/
def dMem : Mem := [.blk 0 [.sl (.var 6) (.var 7) (.var 8) (.var 9), .map (.var 10), .int .i64 (.var 11), .bool (.bvar 12)] 66, .hp 13 [] [.var 6] [], .hp 14 [] [.var 10] []]
def dEnv (a s m : Nat) (D : DM) (l : List Int) (es : Array MapEntry) (clock : Nat) (R : Hl) : Env :=
  envI (([(a : Int)] ++ l ++ [(s : Int), 0, D.n, D.n, m, D.fuse])) D.gone (List.replicate 13 Hl.none ++ [dNow s D.now, Hl.one m (.map es clock), R])
theorem dBlk {q : Env} {a s m n : Nat} {fuse : Int} {gone : Bool} (h0 : q.i 0 = a) (h6 : q.i 6 = s) (h7 : q.i 7 = 0) (h8 : q.i 8 = n) (h9 : q.i 9 = n) (h10 : q.i 10 = m) {f : E} (hf : iev q f = fuse) {g : E} (hg : bev q g = gone) :
    (Res.blk 0 [.sl (.var 6) (.var 7) (.var 8) (.var 9), .map (.var 10), .int .i64 f, .bool g] 66).hl q = dStruct a s m n fuse gone := by
  simp only [Res.hl, List.map_cons, List.map_nil, CV.ev, iev_var, h0, h6, h7, h8, h9, h10, hf, hg, Int.toNat_natCast]
  rw [slP_pos (by omega), if_neg (by omega)]
  rfl
theorem dEntry {H : Hl} {a s m : Nat} {es : Array MapEntry} {clock : Nat} {D : DM} (h : DiskIn H a s m es clock D) (l : List Int) (hl : l.length = 5) (R : Hl) : Entry (dEnv a s m D l es clock R) dMem [H] [] := by
  obtain ⟨x1, x2, x3, x4, x5, rfl⟩ : ∃ x1 x2 x3 x4 x5, l = [x1, x2, x3, x4, x5] := by
    match l, hl with
    | [x1, x2, x3, x4, x5], _ => exact ⟨x1, x2, x3, x4, x5, rfl⟩
  have hb : (Res.blk 0 [.sl (.var 6) (.var 7) (.var 8) (.var 9), .map (.var 10), .int .i64 (.var 11), .bool (.bvar 12)] 66).hl (dEnv a s m D [x1, x2, x3, x4, x5] es clock R) = dStruct a s m D.n D.fuse D.gone := dBlk rfl rfl rfl rfl rfl rfl rfl rfl
  have d1 : (dStruct a s m D.n D.fuse D.gone).dis (dNow s D.now) := Hl.one_dis_one h.nas
  have d2 : (dStruct a s m D.n D.fuse D.gone).dis (Hl.one m (.map es clock)) := Hl.one_dis_one h.nam
  have d3 : (dNow s D.now).dis (Hl.one m (.map es clock)) := Hl.one_dis_one h.nsm
  obtain ⟨l1, l2, l3⟩ := hls3_le d1 d2 d3
  refine ⟨fun r hr ho => ⟨H, by simp, ?_⟩, fun r hr ho => ?_, ?_, fun r hr => ?_⟩
  · rw [h.hl]
    simp only [dMem, List.mem_cons, List.mem_nil_iff, or_false] at hr
    rcases hr with rfl | rfl | rfl
    · rw [hb]; exact l1
    · exact l2
    · exact l3
  · simp only [dMem, List.mem_cons, List.mem_nil_iff, or_false] at hr
    rcases hr with rfl | rfl | rfl <;> cases ho
  · unfold dMem
    refine List.Pairwise.cons (fun r hr _ _ => ?_) (List.Pairwise.cons (fun r hr _ _ => ?_) (List.Pairwise.cons (fun r hr => by cases hr) List.Pairwise.nil))
    · rw [hb]
      simp only [List.mem_cons, List.mem_nil_iff, or_false] at hr
      rcases hr with rfl | rfl
      · exact d1
      · exact d2
    · simp only [List.mem_cons, List.mem_nil_iff, or_false] at hr
      subst hr
      exact d3
  · simp only [dMem, List.mem_cons, List.mem_nil_iff, or_false] at hr
    rcases hr with rfl | rfl | rfl
    · show (0 : Int) ≤ (a : Int); omega
    · trivial
    · trivial
theorem dEntry2 {H : Hl} {a s m : Nat} {es : Array MapEntry} {clock : Nat} {D : DM} (h : DiskIn H a s m es clock D) (l : List Int) (hl : l.length = 5) (R : Hl) (t : List E) : Entry (dEnv a s m D l es clock R) (dMem ++ [.ro 15 t false]) [H] [R] := by
  obtain ⟨h1, h2, h3, h4⟩ := dEntry h l hl R
  refine ⟨fun r hr ho => ?_, fun r hr ho => ?_, ?_, fun r hr => ?_⟩
  · rcases List.mem_append.1 hr with hr | hr
    · exact h1 r hr ho
    · rw [List.mem_singleton] at hr; subst hr; cases ho
  · rcases List.mem_append.1 hr with hr | hr
    · obtain ⟨R, hR, _⟩ := h2 r hr ho; cases hR
    · rw [List.mem_singleton] at hr; subst hr
      exact ⟨R, by simp, Hl.le_refl _⟩
  · rw [List.pairwise_append]
    refine ⟨h3, by simp, fun r _ s hs _ ho => ?_⟩
    rw [List.mem_singleton] at hs; subst hs; cases ho
  · rcases List.mem_append.1 hr with hr | hr
    · exact h4 r hr
    · rw [List.mem_singleton] at hr; subst hr; trivial

/-! ### New -/
def sects (n : Int) : Nat := (min (max n 0) 16384).toNat
def newD (n : Int) : DM := ⟨sects n, List.replicate (64 * sects n) 0, [], -1, false⟩
def newS : Sx.Spec where
  fn := 9
  own := []
  rd := []
  res := [.one .ptr]
  pre := fun xs Hs Rs => ∃ n, xs = [.int .i64 n]
  post := fun xs Hs Rs v Hs' F => ∃ n, xs = [.int .i64 n] ∧ DiskAt F v (newD n)
def newNd : Nd := .and (.pre (.mk 1 92 (List.replicate 64 (CV.int .u8 (.lit 0))) 64 (.ite (.lt (.lit 16384) (.ite (.lt (.var 0) (.lit 0)) (.lit 0) (.var 0))) (.lit 16384) (.ite (.lt (.var 0) (.lit 0)) (.lit 0) (.var 0))))) (.ext (.mk 1 92 (List.replicate 64 (CV.int .u8 (.lit 0))) 64 (.ite (.lt (.lit 16384) (.ite (.lt (.var 0) (.lit 0)) (.lit 0) (.var 0))) (.lit 16384) (.ite (.lt (.var 0) (.lit 0)) (.lit 0) (.var 0)))) (.and (.pre (.mnew 2)) (.ext (.mnew 2) (.ext (.alloc 3) (.post [.hp 1 [] [.var 1] [], .hp 2 [] [.var 2] [], .blk 3 [.sl (.var 1) (.lit 0) (.ite (.lt (.lit 16384) (.ite (.lt (.var 0) (.lit 0)) (.lit 0) (.var 0))) (.lit 16384) (.ite (.lt (.var 0) (.lit 0)) (.lit 0) (.var 0))) (.ite (.lt (.lit 16384) (.ite (.lt (.var 0) (.lit 0)) (.lit 0) (.var 0))) (.lit 16384) (.ite (.lt (.var 0) (.lit 0)) (.lit 0) (.var 0))), .map (.var 2), .int .i64 (.lit (-1)), .bool .ff] 66] (.sv (.one (.hptr (.var 3) (.lit 0)))))))))
def newW : Walk Tryd.prog [] newS.fn where
  Λ := noLoops
  args := [TI .i64 (.var 0)]
  mem := []
  nv := 1
  nd := newNd
  ok := by kernel_rfl
theorem made_rep (k n : Nat) (hk : 0 < k) (z : Value) : madeCells (List.replicate k z).toArray n = (List.replicate n z).toArray := by
  apply Array.ext
  · simp [madeCells]
  · intro i h1 h2
    simp [madeCells, List.getElem?_replicate, Nat.mod_lt _ hk]
theorem made_bytes (n : Nat) : madeCells (List.replicate 64 (Value.int .u8 0)).toArray (n * 64) = (bys (List.replicate (64 * n) 0)).toArray := by
  rw [made_rep 64 _ (by omega), Nat.mul_comm]
  unfold bys; rw [List.map_replicate]
theorem newS_ok : newS.OK Tryd.prog := by
  refine Spec.of_fn (Γ := []) (fun _ h => by cases h) ?_
  rintro xs Hs Rs hl1 hl2 ⟨n, rfl⟩
  have e0 : Hs = [] := List.length_eq_zero_iff.1 hl1
  have e1 : Rs = [] := List.length_eq_zero_iff.1 hl2
  subst e0; subst e1
  refine ⟨newW, envI [n] false [], fun _ _ => True, fun _ _ => 0, ?_, ⟨?_, ?_, ?_, ?_⟩, (fun _ h => nomatch h), ?_⟩
  · simp [newW, TI, TV.ev, SV.ev, CV.ev, iev_var, envI]
  · intro r hr; simp [newW] at hr
  · intro r hr; simp [newW] at hr
  · simp [newW]
  · intro r hr; simp [newW] at hr
  · show Nd.holds _ _ _ newNd
    unfold newNd
    simp only [Nd.holds, X.pre, X.rel, X.n, Src.ok, Src.len, Src.vals, true_and, and_true, if_true, Nat.mul_one, Nat.add_zero, Nat.reduceAdd, List.length_cons, List.length_nil, bT_tt, bT_ff, bT_bvar, bT_not, bT_and, bT_or, bT_ite, bT_lt, bT_le, bT_eq, bT_beq, bT_seq, bT_hB, bT_his, bT_hby, bT_hism, bT_hks, iev_lit, iev_var, iev_add, iev_sub, iev_mul, iev_wrap, iev_ite, iev_hI, iev_hP, iev_hmlen, sev_ite, sev_slit, sev_sof, sev_svar, TV.ev, SV.ev, CV.ev, List.map_cons, List.map_nil, Res.hl]
    have e : (if (16384 : Int) < if n < 0 then 0 else n then 16384 else if n < 0 then 0 else n) = (sects n : Int) := by
      unfold sects; split <;> split <;> omega
    have hs : sects n ≤ 16384 := by unfold sects; omega
    have hn0 : (envI [n] false []).i 0 = n := rfl
    rw [hn0]
    simp only [e]
    refine ⟨⟨by omega, by omega, by omega⟩, fun q1 g1 ⟨p1, hh1⟩ q2 g2 ⟨p2, hh2⟩ q3 g3 p3 hd => ?_⟩
    have i0 : q3.i 0 = n := by rw [g3.i 0 (by omega), g2.i 0 (by omega), g1.i 0 (by omega)]; rfl
    have i1 : q3.i 1 = q1.i 1 := by rw [g3.i 1 (by omega), g2.i 1 (by omega)]
    have i2 : q3.i 2 = q2.i 2 := by rw [g3.i 2 (by omega)]
    obtain ⟨s, hs1⟩ := Int.eq_ofNat_of_zero_le p1
    obtain ⟨m, hm1⟩ := Int.eq_ofNat_of_zero_le p2
    obtain ⟨a, ha1⟩ := Int.eq_ofNat_of_zero_le p3
    rw [hs1] at i1 hh1
    rw [hm1] at i2 hh2
    rw [Int.toNat_natCast] at hh1 hh2
    have ez : (List.replicate 64 (CV.int IntKind.u8 (E.lit 0))).map (CV.ev (envI [n] false [])) = List.replicate 64 (Value.int .u8 0) := rfl
    rw [ez] at hh1
    have h1 : q3.h 1 = dNow s (newD n).now := by
      rw [g3.h 1 (by omega), g2.h 1 (by omega), hh1, List.length_replicate, Int.toNat_natCast, made_bytes]
      rfl
    have h2 : q3.h 2 = Hl.one m (.map #[] 0) := by rw [g3.h 2 (by omega), hh2]
    have h3 : (Res.blk 3 [.sl (.var 1) (.lit 0) (.ite (.lt (.lit 16384) (.ite (.lt (.var 0) (.lit 0)) (.lit 0) (.var 0))) (.lit 16384) (.ite (.lt (.var 0) (.lit 0)) (.lit 0) (.var 0))) (.ite (.lt (.lit 16384) (.ite (.lt (.var 0) (.lit 0)) (.lit 0) (.var 0))) (.lit 16384) (.ite (.lt (.var 0) (.lit 0)) (.lit 0) (.var 0))), .map (.var 2), .int .i64 (.lit (-1)), .bool .ff] 66).hl q3 = dStruct a s m (sects n) (-1) false := by
      simp only [Res.hl, List.map_cons, List.map_nil, CV.ev, bT_tt, bT_ff, bT_bvar, bT_not, bT_and, bT_or, bT_ite, bT_lt, bT_le, bT_eq, bT_beq, bT_seq, bT_hB, bT_his, bT_hby, bT_hism, bT_hks, iev_lit, iev_var, iev_add, iev_sub, iev_mul, iev_wrap, iev_ite, iev_hI, iev_hP, iev_hmlen, sev_ite, sev_slit, sev_sof, sev_svar, bev_ff, bev_lt, decide_eq_true_eq, i0, i1, i2, ha1, e, Int.toNat_natCast]
      rw [slP_pos (by omega), if_neg (by omega)]
      rfl
    have d01 := hd 0 1 _ _ (by decide) rfl rfl rfl
    have d02 := hd 0 2 _ _ (by decide) rfl rfl rfl
    have d12 := hd 1 2 _ _ (by decide) rfl rfl rfl
    rw [h3] at d02 d12
    have d01 : (q3.h 1).dis (q3.h 2) := d01
    have d02 : (q3.h 1).dis (dStruct a s m (sects n) (-1) false) := d02
    have d12 : (q3.h 2).dis (dStruct a s m (sects n) (-1) false) := d12
    rw [h1] at d01 d02
    rw [h2] at d01 d12
    have nsm : s ≠ m := fun e => Hl.one_dis.1 d01 (Hl.one_mem.2 e)
    have nas : a ≠ s := fun e => Hl.one_dis.1 d02 (Hl.one_mem.2 e.symm)
    have nam : a ≠ m := fun e => Hl.one_dis.1 d12 (Hl.one_mem.2 e.symm)
    refine ⟨[], [2, 0, 1], rfl, rfl, ⟨q3.setI 0 (q3.i 3) |>.setI 1 0, rfl, ⟨by show -1 ≤ q3.i 3; omega, Int.le_refl _⟩, trivial⟩, n, rfl, a, s, m, #[], 0, ?_, ⟨⟨?_, hs, by show (-1 : Int) ≤ -1; omega, by show (-1 : Int) ≤ _; omega, fun p hp => by cases hp⟩, rfl, MapKept.stamped_empty _, nas, nam, nsm, ?_⟩⟩
    · simp only [TV.ev, SV.ev, CV.ev, iev_var, iev_lit, ha1]
      rw [slP_pos (by omega)]; rfl
    · show (List.replicate (64 * sects n) (0 : Int)).length = _
      rw [List.length_replicate]; rfl
    · show hls [_, q3.h 1, q3.h 2] = _
      rw [h1, h2]
      congr 1
      congr 1
end Go.Proofs.YtomdimlnggpgbaaDoor.D
