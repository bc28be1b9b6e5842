/- Layer 7: the reference disk: its state, how it stands in memory. Plain facts. -/
import Derived.Test.YtdohcabnaihaoaaRfA
set_option linter.unusedSimpArgs false
set_option linter.unusedVariables false
set_option linter.constructorNameAsVariable false
namespace Go.Proofs.Ytdohcabnaihaoaa
open Go Go.Sx

theorem seg_of {R : Hl} {x y l : Int} {bs : List Int} (hl : l = bs.length) (hy : 0 ≤ y) (h : bs = [] ∨ 0 ≤ x ∧ ∀ j z, bs[j]? = some z → R.cell x.toNat (y.toNat + j) = some (.int .u8 z)) :
    ((0 ≤ x ∧ 0 ≤ y ∧ 0 ≤ l ∧ ∀ j, j < l.toNat → ∃ v, R.cell x.toNat (y.toNat + j) = some v ∧ v.oneCell' = true) ∨ l = 0) ∧ segVals R x.toNat y.toNat l.toNat = bys bs := by
  subst hl
  rw [Int.toNat_natCast]
  constructor
  · rcases h with h | ⟨hx, h⟩
    · subst h; exact Or.inr rfl
    · exact Or.inl ⟨hx, hy, by omega, fun j hj => ⟨_, h j _ (List.getElem?_eq_getElem hj), rfl⟩⟩
  · unfold segVals
    apply List.ext_getElem?
    intro j
    rw [List.getElem?_map, bys_get]
    rcases Nat.lt_or_ge j bs.length with hj | hj
    · rcases h with h | ⟨hx, h⟩
      · subst h; cases hj
      · rw [List.getElem?_range hj, Option.map_some, h j _ (List.getElem?_eq_getElem hj), List.getElem?_eq_getElem hj]
        rfl
    · rw [List.getElem?_eq_none (by simpa using hj), List.getElem?_eq_none (by omega)]; rfl
theorem own0 (F : Hl) {a : Int} (h : 0 ≤ a) (hF : F = Hl.one a.toNat (.cells #[] 5 (0, 0))) : OwnsH F 5 1 (.slice (slP a 0) (Int.toNat 0) (Int.toNat 0)) (Int.toNat 0) [] := by
  subst hF
  exact ⟨rfl, Or.inr ⟨a.toNat, 0, #[], by rw [slP_pos h]; rfl, Hl.one_self _ _, by omega, by decide, rfl, rfl⟩⟩
/-- A slice of bytes that has a whole row of its own, with something in it. -/
theorem rowO_of {F : Hl} {v : Value} {bs : List Int} (h : OwnsH F 5 1 v bs.length (bys bs)) (h0 : bs ≠ []) : RowO F none v bs := by
  rcases h.2 with ⟨_, hn⟩ | ⟨g, cap, cur, hv, hg, hle, hm, hs, ht⟩
  · exact absurd (List.length_eq_zero_iff.1 hn) h0
  · exact ⟨g, cap, cur, hv, by simp, hg, by rw [Nat.mul_one] at ht; exact ht⟩
/-- A reference disk: both images, which are loose, the fuse, whether the power is gone. -/
structure RM where
  now : List (List Int)
  was : List (List Int)
  is : List Bool
  fuse : Int
  gone : Bool
structure RM.ok (M : RM) : Prop where
  now : ∀ r ∈ M.now, r.length = 64
  was : ∀ r ∈ M.was, r.length = 64
  wl : M.was.length = M.now.length
  il : M.is.length = M.now.length
  n : M.now.length ≤ 16384
  f0 : -1 ≤ M.fuse
  f1 : M.fuse ≤ 9223372036854775807
abbrev sv0 (x : Int) (n : Nat) (c : Int) : Value := .slice (slP x 0) ((n : Int)).toNat c.toNat
def rStruct (a n : Nat) (x1 c1 x2 c2 x3 c3 fuse : Int) (gone : Bool) : Hl := Hl.one a (.cells #[sv0 x1 n c1, sv0 x2 n c2, sv0 x3 n c3, .int .i64 fuse, .bool gone] 66 (0, 0))
structure RefIn (H : Hl) (a n : Nat) (x1 c1 x2 c2 x3 c3 : Int) (A B C : Hl) (M : RM) : Prop where
  ok : M.ok
  len : M.now.length = n
  r1 : -1 ≤ x1 ∧ 0 ≤ c1
  r2 : -1 ≤ x2 ∧ 0 ≤ c2
  r3 : -1 ≤ x3 ∧ 0 ≤ c3
  now : RowsO A (sv0 x1 n c1) M.now
  was : RowsO B (sv0 x2 n c2) M.was
  is : OwnsH C 4 1 (sv0 x3 n c3) n (M.is.map Value.bool)
  da : ¬ A.mem a
  db : ¬ B.mem a
  dc : ¬ C.mem a
  dab : A.dis B
  dac : A.dis C
  dbc : B.dis C
  hl : H = hls [rStruct a n x1 c1 x2 c2 x3 c3 M.fuse M.gone, A, B, C]
/-- What a pointer to a reference disk reaches. -/
def RefAt (H : Hl) (v : Value) (M : RM) : Prop := ∃ a n x1 c1 x2 c2 x3 c3 A B C, v = .pointer (some ⟨a, 0, none⟩) ∧ RefIn H a n x1 c1 x2 c2 x3 c3 A B C M
theorem hls4_le {S A B C : Hl} (h1 : S.dis A) (h2 : S.dis B) (h3 : S.dis C) (h4 : A.dis B) (h5 : A.dis C) (h6 : B.dis C) : S.le (hls [S, A, B, C]) ∧ A.le (hls [S, A, B, C]) ∧ B.le (hls [S, A, B, C]) ∧ C.le (hls [S, A, B, C]) := by
  show S.le (S.un (A.un (B.un (C.un Hl.none)))) ∧ A.le (S.un (A.un (B.un (C.un Hl.none)))) ∧ B.le (S.un (A.un (B.un (C.un Hl.none)))) ∧ C.le (S.un (A.un (B.un (C.un Hl.none))))
  rw [Hl.un_none]
  have k1 : S.dis (A.un (B.un C)) := Hl.dis_un h1 (Hl.dis_un h2 h3)
  have k2 : A.dis (B.un C) := Hl.dis_un h4 h5
  exact ⟨Hl.un_left _ _, fun k o h => Hl.un_right k1 k o (Hl.un_left _ _ k o h), fun k o h => Hl.un_right k1 k o (Hl.un_right k2 k o (Hl.un_left _ _ k o h)), fun k o h => Hl.un_right k1 k o (Hl.un_right k2 k o (Hl.un_right h6 k o h))⟩
section
variable {H : Hl} {a n : Nat} {x1 c1 x2 c2 x3 c3 : Int} {A B C : Hl} {M : RM}
theorem RefIn.le (h : RefIn H a n x1 c1 x2 c2 x3 c3 A B C M) : (rStruct a n x1 c1 x2 c2 x3 c3 M.fuse M.gone).le H ∧ A.le H ∧ B.le H ∧ C.le H := by
  rw [h.hl]
  exact hls4_le (Hl.one_dis.2 h.da) (Hl.one_dis.2 h.db) (Hl.one_dis.2 h.dc) h.dab h.dac h.dbc
theorem OwnsH.mono {F G : Hl} (hl : F.le G) {e : TypeId} {k : Nat} {v : Value} {m : Nat} {us : List Value} (h : OwnsH F e k v m us) : OwnsH G e k v m us := by
  refine ⟨h.1, h.2.imp id fun ⟨g, cap, cur, hv, hg, r⟩ => ⟨g, cap, cur, hv, hl _ _ hg, r⟩⟩
theorem RowsO.mono {F G : Hl} (hl : F.le G) {v : Value} {rows : List (List Int)} (h : RowsO F v rows) : RowsO G v rows := by
  obtain ⟨us, ho, hr, hne⟩ := h
  refine ⟨us, OwnsH.mono hl ho, fun j u r hu hrr => ?_, hne⟩
  obtain ⟨b, c, cur, h1, h2, h3, h4⟩ := hr j u r hu hrr
  exact ⟨b, c, cur, h1, h2, hl _ _ h3, h4⟩
theorem bool_inj : ∀ {a b : List Bool}, a.map Value.bool = b.map Value.bool → a = b
  | [], [], _ => rfl
  | [], _ :: _, h => by cases h
  | _ :: _, [], h => by cases h
  | x :: a, y :: b, h => by
    simp only [List.map_cons, List.cons.injEq, Value.bool.injEq] at h
    rw [h.1, bool_inj h.2]
theorem RefAt.uniq {v : Value} {M' : RM} (h : RefAt H v M) (h' : RefAt H v M') : M = M' := by
  obtain ⟨a, n, x1, c1, x2, c2, x3, c3, A, B, C, rfl, h⟩ := h
  obtain ⟨a', n', y1, d1, y2, d2, y3, d3, A', B', C', e, h'⟩ := h'
  simp only [Value.pointer.injEq, Option.some.injEq, Addr.mk.injEq, and_true] at e
  subst e
  obtain ⟨l0, l1, l2, l3⟩ := h.le
  obtain ⟨k0, k1, k2, k3⟩ := h'.le
  have e1 := l0 a _ (Hl.one_self _ _)
  have e2 := k0 a _ (Hl.one_self _ _)
  rw [e1] at e2
  simp only [Option.some.injEq, Obj.cells.injEq, Array.mk.injEq, List.cons.injEq, Value.int.injEq, Value.bool.injEq, and_true, true_and] at e2
  obtain ⟨s1, s2, s3, s4, s5⟩ := e2
  have r1 := RowsO.mono l1 h.now
  have r2 := RowsO.mono l2 h.was
  have r3 := OwnsH.mono l3 h.is
  have t1 := RowsO.mono k1 h'.now
  have t2 := RowsO.mono k2 h'.was
  have t3 := OwnsH.mono k3 h'.is
  rw [← s1] at t1
  rw [← s2] at t2
  rw [← s3] at t3
  have q1 := r1.uniq t1
  have q2 := r2.uniq t2
  have q3 := bool_inj (r3.inj t3).2
  obtain ⟨m1, m2, m3, m4, m5⟩ := M
  obtain ⟨m1', m2', m3', m4', m5'⟩ := M'
  simp only at s4 s5 q1 q2 q3
  subst s4 s5 q1 q2 q3
  rfl
/-- Four pieces that are a reference disk. -/
theorem refIn_of {q : Env} {r0 r1 r2 r3 : Res} {t : Mem} (ok : M.ok) (hn : M.now.length = n) (k1 : -1 ≤ x1 ∧ 0 ≤ c1) (k2 : -1 ≤ x2 ∧ 0 ≤ c2) (k3 : -1 ≤ x3 ∧ 0 ≤ c3) (e0 : r0.hl q = rStruct a n x1 c1 x2 c2 x3 c3 M.fuse M.gone)
    (o0 : r0.own = true) (o1 : r1.own = true) (o2 : r2.own = true) (h1 : RowsO (r1.hl q) (sv0 x1 n c1) M.now) (h2 : RowsO (r2.hl q) (sv0 x2 n c2) M.was) (h3 : OwnsH (r3.hl q) 4 1 (sv0 x3 n c3) n (M.is.map Value.bool))
    (hd : ∀ (p s : Nat) r u, p ≠ s → (r0 :: r1 :: r2 :: r3 :: t)[p]? = some r → (r0 :: r1 :: r2 :: r3 :: t)[s]? = some u → r.own = true → (r.hl q).dis (u.hl q)) : RefIn (uni q (r0 :: r1 :: r2 :: r3 :: t) [0, 1, 2, 3]) a n x1 c1 x2 c2 x3 c3 (r1.hl q) (r2.hl q) (r3.hl q) M := by
  have d1 := hd 0 1 r0 r1 (by decide) rfl rfl o0
  have d2 := hd 0 2 r0 r2 (by decide) rfl rfl o0
  have d3 := hd 0 3 r0 r3 (by decide) rfl rfl o0
  rw [e0] at d1 d2 d3
  refine ⟨ok, hn, k1, k2, k3, h1, h2, h3, Hl.one_dis.1 d1, Hl.one_dis.1 d2, Hl.one_dis.1 d3, hd 1 2 r1 r2 (by decide) rfl rfl o1, hd 1 3 r1 r3 (by decide) rfl rfl o1, hd 2 3 r2 r3 (by decide) rfl rfl o2, ?_⟩
  show hls [r0.hl q, r1.hl q, r2.hl q, r3.hl q] = _
  rw [e0]
/-- The pieces of a reference disk, one by one. -/
def rBlk (f g : CV) : Res := .blk 0 [.sl (.var 6) (.lit 0) (.var 7) (.var 8), .sl (.var 9) (.lit 0) (.var 7) (.var 10), .sl (.var 11) (.lit 0) (.var 7) (.var 12), f, g] 66
def rMem : Mem := [rBlk (.int .i64 (.var 13)) (.bool (.bvar 14)), .hp 15 [] [.var 6] [], .hp 16 [] [.var 9] [], .hp 17 [] [.var 11] []]
def rEnv (a n : Nat) (x1 c1 x2 c2 x3 c3 : Int) (A B C : Hl) (M : RM) (l : List Int) (R : Hl) : Env :=
  envI ([(a : Int)] ++ l ++ [x1, (n : Int), c1, x2, c2, x3, c3, M.fuse]) M.gone (List.replicate 15 Hl.none ++ [A, B, C, R])
theorem rBlk_hl {q : Env} (h0 : q.i 0 = a) (h6 : q.i 6 = x1) (h7 : q.i 7 = n) (h8 : q.i 8 = c1) (h9 : q.i 9 = x2) (h10 : q.i 10 = c2) (h11 : q.i 11 = x3) (h12 : q.i 12 = c3) {f g : CV} {fuse : Int} {gone : Bool} (hf : f.ev q = .int .i64 fuse) (hg : g.ev q = .bool gone) :
    (rBlk f g).hl q = rStruct a n x1 c1 x2 c2 x3 c3 fuse gone := by
  show Hl.one (q.i 0).toNat (.cells #[.slice (slP (q.i 6) 0) (q.i 7).toNat (q.i 8).toNat, .slice (slP (q.i 9) 0) (q.i 7).toNat (q.i 10).toNat, .slice (slP (q.i 11) 0) (q.i 7).toNat (q.i 12).toNat, f.ev q, g.ev q] 66 (0, 0)) = _
  rw [h0, h6, h7, h8, h9, h10, h11, h12, hf, hg, Int.toNat_natCast]
  rfl
theorem five {l : List Int} (hl : l.length = 5) : ∃ y1 y2 y3 y4 y5, l = [y1, y2, y3, y4, y5] := by
  match l, hl with
  | [y1, y2, y3, y4, y5], _ => exact ⟨y1, y2, y3, y4, y5, rfl⟩
theorem rEntry (h : RefIn H a n x1 c1 x2 c2 x3 c3 A B C M) (l : List Int) (hl : l.length = 5) (R : Hl) : Entry (rEnv a n x1 c1 x2 c2 x3 c3 A B C M l R) rMem [H] [] := by
  obtain ⟨y1, y2, y3, y4, y5, rfl⟩ := five hl
  have hb : (rBlk (.int .i64 (.var 13)) (.bool (.bvar 14))).hl (rEnv a n x1 c1 x2 c2 x3 c3 A B C M [y1, y2, y3, y4, y5] R) = rStruct a n x1 c1 x2 c2 x3 c3 M.fuse M.gone := rBlk_hl rfl rfl rfl rfl rfl rfl rfl rfl rfl rfl
  obtain ⟨l0, l1, l2, l3⟩ := h.le
  refine ⟨fun r hr ho => ⟨H, by simp, ?_⟩, fun r hr ho => ?_, ?_, fun r hr => ?_⟩
  · simp only [rMem, List.mem_cons, List.mem_nil_iff, or_false] at hr
    rcases hr with rfl | rfl | rfl | rfl
    · rw [hb]; exact l0
    · exact l1
    · exact l2
    · exact l3
  · simp only [rMem, List.mem_cons, List.mem_nil_iff, or_false] at hr
    rcases hr with rfl | rfl | rfl | rfl <;> cases ho
  · unfold rMem
    refine List.Pairwise.cons (fun r hr _ _ => ?_) (List.Pairwise.cons (fun r hr _ _ => ?_) (List.Pairwise.cons (fun r hr _ _ => ?_) (List.Pairwise.cons (fun r hr => by cases hr) List.Pairwise.nil)))
    · rw [hb]
      simp only [List.mem_cons, List.mem_nil_iff, or_false] at hr
      rcases hr with rfl | rfl | rfl
      · exact Hl.one_dis.2 h.da
      · exact Hl.one_dis.2 h.db
      · exact Hl.one_dis.2 h.dc
    · simp only [List.mem_cons, List.mem_nil_iff, or_false] at hr
      rcases hr with rfl | rfl
      · exact h.dab
      · exact h.dac
    · simp only [List.mem_cons, List.mem_nil_iff, or_false] at hr
      subst hr
      exact h.dbc
  · simp only [rMem, List.mem_cons, List.mem_nil_iff, or_false] at hr
    rcases hr with rfl | rfl | rfl | rfl
    · show (0 : Int) ≤ (a : Int); omega
    · trivial
    · trivial
    · trivial
theorem rEntry2 (h : RefIn H a n x1 c1 x2 c2 x3 c3 A B C M) (l : List Int) (hl : l.length = 5) (R : Hl) (t : List E) : Entry (rEnv a n x1 c1 x2 c2 x3 c3 A B C M l R) (rMem ++ [.ro 18 t false]) [H] [R] := by
  obtain ⟨h1, h2, h3, h4⟩ := rEntry h l hl R
  obtain ⟨y1, y2, y3, y4, y5, rfl⟩ := five hl
  refine ⟨fun r hr ho => ?_, fun r hr ho => ?_, ?_, fun r hr => ?_⟩
  · rcases List.mem_append.1 hr with hr | hr
    · exact h1 r hr ho
    · rw [List.mem_singleton] at hr; subst hr; cases ho
  · rcases List.mem_append.1 hr with hr | hr
    · obtain ⟨R, hR, _⟩ := h2 r hr ho; cases hR
    · rw [List.mem_singleton] at hr; subst hr
      exact ⟨R, by simp, Hl.le_refl _⟩
  · rw [List.pairwise_append]
    refine ⟨h3, by simp, fun r _ s hs _ ho => ?_⟩
    rw [List.mem_singleton] at hs; subst hs; cases ho
  · rcases List.mem_append.1 hr with hr | hr
    · exact h4 r hr
    · rw [List.mem_singleton] at hr; subst hr; trivial
/-- A way out of a walk over a reference disk. -/
theorem rOut (h : RefIn H a n x1 c1 x2 c2 x3 c3 A B C M) {l : List Int} (hl : l.length = 5) {R : Hl} {q : Env} (hq : Agree 19 (rEnv a n x1 c1 x2 c2 x3 c3 A B C M l R) q) {M' : RM} {f g : CV} {k1 k2 k3 : Nat} {v1 v2 v3 : List Nat} {t1 t2 t3 : List E} {t : Mem}
    (ok : M'.ok) (hn : M'.now.length = M.now.length) (hf : f.ev q = .int .i64 M'.fuse) (hg : g.ev q = .bool M'.gone) (h1 : RowsO (q.h k1) (sv0 x1 n c1) M'.now) (h2 : RowsO (q.h k2) (sv0 x2 n c2) M'.was) (h3 : OwnsH (q.h k3) 4 1 (sv0 x3 n c3) n (M'.is.map Value.bool))
    (hd : ∀ (p s : Nat) r u, p ≠ s → (rBlk f g :: .hp k1 v1 t1 [] :: .hp k2 v2 t2 [] :: .hp k3 v3 t3 [] :: t : Mem)[p]? = some r → (rBlk f g :: .hp k1 v1 t1 [] :: .hp k2 v2 t2 [] :: .hp k3 v3 t3 [] :: t : Mem)[s]? = some u → r.own = true → (r.hl q).dis (u.hl q)) :
    RefAt (uni q (rBlk f g :: .hp k1 v1 t1 [] :: .hp k2 v2 t2 [] :: .hp k3 v3 t3 [] :: t) [0, 1, 2, 3]) (.pointer (some ⟨a, 0, none⟩)) M' := by
  obtain ⟨y1, y2, y3, y4, y5, rfl⟩ := five hl
  exact ⟨a, n, x1, c1, x2, c2, x3, c3, _, _, _, rfl, refIn_of ok (hn.trans h.len) h.r1 h.r2 h.r3 (rBlk_hl (hq.i 0 (by omega)) (hq.i 6 (by omega)) (hq.i 7 (by omega)) (hq.i 8 (by omega)) (hq.i 9 (by omega)) (hq.i 10 (by omega)) (hq.i 11 (by omega)) (hq.i 12 (by omega)) hf hg) rfl rfl rfl h1 h2 h3 hd⟩
end
end Go.Proofs.Ytdohcabnaihaoaa
