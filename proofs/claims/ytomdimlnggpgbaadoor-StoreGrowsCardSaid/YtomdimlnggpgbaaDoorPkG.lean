/- Layer 5: what is put together: Num, Raw, Flag, Text, End, and the reference's Num, as contracts. Condition: at most 900000 bytes. -/
import Derived.Test.YtomdimlnggpgbaaDoorPkF
set_option linter.unusedSimpArgs false
set_option linter.unusedVariables false
set_option linter.constructorNameAsVariable false
namespace Go.Proofs.YtomdimlnggpgbaaDoor
open Go Go.Sx Go.Pk

abbrev svb (x : Int) (n : Nat) (c : Int) : Value := .slice (slP x 0) ((n : Int)).toNat c.toNat
def outS (a : Nat) (x c : Int) (n : Nat) (lg : Bool) : Hl := Hl.one a (.cells #[svb x n c, .bool lg] 124 (0, 0))
/-- Bytes that are put together: the block, and the bytes. -/
structure OutIn (H : Hl) (a : Nat) (x c : Int) (F : Hl) (bs : List Int) (lg : Bool) : Prop where
  rx : -1 ≤ x
  rc : 0 ≤ c
  own : OwB F 5 (svb x bs.length c) bs
  na : ¬ F.mem a
  hl : H = hls [outS a x c bs.length lg, F]
def OutAt (H : Hl) (p : Value) (bs : List Int) (lg : Bool) : Prop := ∃ a x c F, p = .pointer (some ⟨a, 0, none⟩) ∧ OutIn H a x c F bs lg
section
variable {H F : Hl} {a : Nat} {x c : Int} {bs : List Int} {lg : Bool}
theorem OutIn.le (h : OutIn H a x c F bs lg) : (outS a x c bs.length lg).le H ∧ F.le H := by
  have hd : (outS a x c bs.length lg).dis F := Hl.one_dis.2 h.na
  rw [h.hl]
  show (outS a x c bs.length lg).le ((outS a x c bs.length lg).un (F.un Hl.none)) ∧ F.le ((outS a x c bs.length lg).un (F.un Hl.none))
  rw [Hl.un_none]
  exact ⟨Hl.un_left _ _, Hl.un_right hd⟩
/-- What is read of a block and its bytes. -/
theorem OutAt.whole {p : Value} (h : OutAt H p bs lg) : ∃ (a : Nat) (x c : Int), p = .pointer (some ⟨a, 0, none⟩) ∧ -1 ≤ x ∧ 0 ≤ c ∧ H.cell a 0 = some (svb x bs.length c) ∧ H.cell a 1 = some (.bool lg) ∧ RdB H (svb x bs.length c) bs := by
  obtain ⟨a, x, c, F, rfl, h⟩ := h
  obtain ⟨l1, l2⟩ := h.le
  have e := l1 a _ (Hl.one_self _ _)
  exact ⟨a, x, c, rfl, h.rx, h.rc, by unfold Hl.cell; rw [e]; rfl, by unfold Hl.cell; rw [e]; rfl, rdB_mono l2 h.own.rd⟩
theorem OutAt.uniq {p : Value} {bs' : List Int} {lg' : Bool} (h : OutAt H p bs lg) (h' : OutAt H p bs' lg') : bs = bs' ∧ lg = lg' := by
  obtain ⟨a, x, c, rfl, _, _, h0, h1, hr⟩ := h.whole
  obtain ⟨a', x', c', e, _, _, k0, k1, kr⟩ := h'.whole
  simp only [Value.pointer.injEq, Option.some.injEq, Addr.mk.injEq, and_true] at e
  subst e
  rw [h0] at k0
  rw [h1] at k1
  simp only [Option.some.injEq, Value.bool.injEq] at k0 k1
  rw [← k0] at kr
  exact ⟨hr.uniq kr, k1⟩
end
/-- Nothing was put yet. -/
theorem OutAt.new (a : Nat) : OutAt (Hl.one a (.cells #[.slice none 0 0, .bool false] 124 (0, 0))) (.pointer (some ⟨a, 0, none⟩)) [] false := by
  refine ⟨a, -1, 0, Hl.none, rfl, ⟨Int.le_refl _, Int.le_refl _, ⟨rfl, Or.inl ⟨rfl, rfl⟩⟩, fun h => (by simp [Hl.mem, Hl.none] at h), ?_⟩⟩
  show _ = (outS a (-1) 0 0 false).un (Hl.none.un Hl.none)
  rw [Hl.un_none, Hl.un_none]
  rfl
def outMem : Mem := [.blk 0 [.sl (.var 1) (.lit 0) (.var 2) (.var 3), .bool (.bvar 6)] 124, .hp 7 [] [.var 1] []]
def outEnv (a : Nat) (x c : Int) (n : Nat) (lg : Bool) (F : Hl) (z : Int) (l : List Int) (R : Hl) : Env := envI ([(a : Int), x, n, c, 0, z, 0, 0] ++ l) lg [Hl.none, Hl.none, Hl.none, Hl.none, Hl.none, Hl.none, Hl.none, F, Hl.none, Hl.none, Hl.none, Hl.none, R]
section
variable {H F : Hl} {a : Nat} {x c : Int} {bs : List Int} {lg : Bool}
theorem outEntry (h : OutIn H a x c F bs lg) (z : Int) (l : List Int) (R : Hl) : Entry (outEnv a x c bs.length lg F z l R) outMem [H] [] := by
  obtain ⟨l1, l2⟩ := h.le
  have hb : (Res.blk 0 [.sl (.var 1) (.lit 0) (.var 2) (.var 3), .bool (.bvar 6)] 124).hl (outEnv a x c bs.length lg F z l R) = outS a x c bs.length lg := by
    show Hl.one ((a : Int)).toNat (.cells #[svb x bs.length c, .bool lg] 124 (0, 0)) = _
    rw [Int.toNat_natCast]; rfl
  refine ⟨fun r hr ho => ⟨H, by simp, ?_⟩, fun r hr ho => ?_, ?_, fun r hr => ?_⟩
  · simp only [outMem, List.mem_cons, List.mem_nil_iff, or_false] at hr
    rcases hr with rfl | rfl
    · rw [hb]; exact l1
    · exact l2
  · simp only [outMem, List.mem_cons, List.mem_nil_iff, or_false] at hr
    rcases hr with rfl | rfl <;> cases ho
  · unfold outMem
    refine List.Pairwise.cons (fun r hr _ _ => ?_) (List.Pairwise.cons (fun r hr => by cases hr) List.Pairwise.nil)
    rw [List.mem_singleton] at hr
    subst hr
    rw [hb]
    exact Hl.one_dis.2 h.na
  · simp only [outMem, List.mem_cons, List.mem_nil_iff, or_false] at hr
    rcases hr with rfl | rfl
    · show (0 : Int) ≤ (a : Int); omega
    · trivial
theorem outEntry2 (h : OutIn H a x c F bs lg) (z : Int) (l : List Int) (R : Hl) (t : List E) : Entry (outEnv a x c bs.length lg F z l R) (outMem ++ [.ro 12 t false]) [H] [R] := by
  obtain ⟨h1, h2, h3, h4⟩ := outEntry h z l R
  refine ⟨fun r hr ho => ?_, fun r hr ho => ?_, ?_, fun r hr => ?_⟩
  · rcases List.mem_append.1 hr with hr | hr
    · exact h1 r hr ho
    · rw [List.mem_singleton] at hr; subst hr; cases ho
  · rcases List.mem_append.1 hr with hr | hr
    · obtain ⟨R, hR, _⟩ := h2 r hr ho; cases hR
    · rw [List.mem_singleton] at hr; subst hr
      exact ⟨R, by simp, Hl.le_refl _⟩
  · rw [List.pairwise_append]
    refine ⟨h3, by simp, fun r _ s hs _ ho => ?_⟩
    rw [List.mem_singleton] at hs; subst hs; cases ho
  · rcases List.mem_append.1 hr with hr | hr
    · exact h4 r hr
    · rw [List.mem_singleton] at hr; subst hr; trivial
end
/-- A way out of a walk that put bytes together. -/
theorem outOut {q : Env} {a : Nat} {X N C g : E} {k : Nat} {v7 : List Nat} {t7 : List E} {t : Mem} {bs : List Int} {lg : Bool} (h0 : q.i 0 = a) (hX : -1 ≤ iev q X) (hN : iev q N = bs.length) (hC : 0 ≤ iev q C) (hg : bev q g = lg) (ho : OwB (q.h k) 5 (svb (iev q X) bs.length (iev q C)) bs)
    (hd : ∀ (p s : Nat) r u, p ≠ s → (.blk 0 [.sl X (.lit 0) N C, .bool g] 124 :: .hp k v7 t7 [] :: t : Mem)[p]? = some r → (.blk 0 [.sl X (.lit 0) N C, .bool g] 124 :: .hp k v7 t7 [] :: t : Mem)[s]? = some u → r.own = true → (r.hl q).dis (u.hl q)) :
    OutAt (uni q (.blk 0 [.sl X (.lit 0) N C, .bool g] 124 :: .hp k v7 t7 [] :: t) [0, 1]) (.pointer (some ⟨a, 0, none⟩)) bs lg := by
  have hb : (Res.blk 0 [.sl X (.lit 0) N C, .bool g] 124).hl q = outS a (iev q X) (iev q C) bs.length lg := by
    show Hl.one (q.i 0).toNat (.cells #[.slice (slP (iev q X) 0) (iev q N).toNat (iev q C).toNat, .bool (bev q g)] 124 (0, 0)) = _
    rw [h0, hN, hg, Int.toNat_natCast]; rfl
  have d01 := hd 0 1 _ _ (by decide) rfl rfl rfl
  rw [hb] at d01
  refine ⟨a, iev q X, iev q C, q.h k, rfl, hX, hC, ho, Hl.one_dis.1 d01, ?_⟩
  show hls [(Res.blk 0 [.sl X (.lit 0) N C, .bool g] 124).hl q, q.h k] = _
  rw [hb]
theorem owB_app {A B : Hl} {x l c x1 c1 : Int} {bs bs2 : List Int} (ho : OwB A 5 (.slice (slP x 0) l.toNat c.toNat) bs) (hl : l = bs.length) {m : Nat} (hm : m = bs2.length)
    (happ : ∀ xs, OwnsH A 5 1 (.slice (slP x 0) l.toNat c.toNat) l.toNat xs → OwnsH B 5 1 (.slice (slP x1 0) (l.toNat + m) c1.toNat) (l.toNat + m) (xs ++ bys bs2)) : OwB B 5 (svb x1 (bs ++ bs2).length c1) (bs ++ bs2) := by
  have hn : l.toNat = bs.length := by omega
  have h1 : OwnsH A 5 1 (.slice (slP x 0) l.toNat c.toNat) l.toNat (bys bs) := by rw [hn] at ho ⊢; exact ho
  have h2 := happ _ h1
  unfold OwB svb
  rw [Int.toNat_natCast, List.length_append, bys_append, ← hm, ← hn]
  exact h2
theorem owB_pre {A : Hl} {x l c : Int} {bs : List Int} (ho : OwB A 5 (.slice (slP x 0) l.toNat c.toNat) bs) (hl : l = bs.length) : OwnsH A 5 1 (.slice (slP x 0) l.toNat c.toNat) l.toNat (bys bs) := by
  have hn : l.toNat = bs.length := by omega
  rw [hn] at ho ⊢; exact ho
/-! ### Num -/
def outOp (f : FuncId) (ok : List Value → List Int → Prop) (act : List Value → List Int → List Int) : Sx.Spec where
  fn := f
  own := [.arg 0]
  rd := []
  res := []
  pre := fun xs Hs Rs => ∃ p z H bs lg, xs = [p, z] ∧ Hs = [H] ∧ OutAt H p bs lg ∧ ok [z] bs ∧ bs.length ≤ 900000
  post := fun xs Hs Rs v Hs' F => ∃ p z H bs lg H', xs = [p, z] ∧ Hs = [H] ∧ OutAt H p bs lg ∧ Hs' = [H'] ∧ OutAt H' p (act [z] bs) lg
def numAct (l : List Value) (bs : List Int) : List Int := bs ++ numB (valI l[0]?).toNat
def numOk (l : List Value) (_ : List Int) : Prop := ∃ z : Int, l = [.int .u64 z] ∧ 0 ≤ z ∧ z < 18446744073709551616
def oNumS : Sx.Spec := outOp 60 numOk numAct
def oNumNd : Nd := .and (.inv 0 [⟨24, 0, .int .i64 (.var 5)⟩, ⟨20, 0, .int .i64 (.var 1)⟩, ⟨22, 0, .int .i64 (.var 2)⟩, ⟨23, 0, .int .i64 (.var 3)⟩] [(25, some 7)]) (.havoc 0 0 8 (.and (.imp (.le (.lit 128) (.var 24)) (.ext (.alloc 30) (.and (.pre (.app 31 5 1 1 (.sl (.var 20) (.lit 0) (.var 22) (.var 23)) (.var 22) (.hp 25 [] [.var 20] []) (.cvs [.int .u8 (.bits .or .u8 (.wrap .u8 (.var 24)) (.lit 128))] 1))) (.ext (.app 31 5 1 1 (.sl (.var 20) (.lit 0) (.var 22) (.var 23)) (.var 22) (.hp 25 [] [.var 20] []) (.cvs [.int .u8 (.bits .or .u8 (.wrap .u8 (.var 24)) (.lit 128))] 1)) (.back 0 0 [⟨24, 0, .int .i64 (.shr .u64 (.var 24) (.lit 7))⟩, ⟨20, 0, .int .i64 (.var 31)⟩, ⟨22, 0, .int .i64 (.add (.var 22) (.lit 1))⟩, ⟨23, 0, .int .i64 (.var 32)⟩] [(25, some 31)]))))) (.imp (.not (.le (.lit 128) (.var 24))) (.ext (.alloc 30) (.and (.pre (.app 31 5 1 1 (.sl (.var 20) (.lit 0) (.var 22) (.var 23)) (.var 22) (.hp 25 [] [.var 20] []) (.cvs [.int .u8 (.wrap .u8 (.var 24))] 1))) (.ext (.app 31 5 1 1 (.sl (.var 20) (.lit 0) (.var 22) (.var 23)) (.var 22) (.hp 25 [] [.var 20] []) (.cvs [.int .u8 (.wrap .u8 (.var 24))] 1)) (.post [.blk 0 [.sl (.var 31) (.lit 0) (.add (.var 22) (.lit 1)) (.var 32), .bool (.bvar 6)] 124, .hp 31 [25] [.var 31, .var 20] [], .dead] (.tup []))))))))
def oNumW : Walk Tryd.prog [] 60 where
  Λ := fun p => if lp0 p then some ⟨0, [(1, TI .u64 (.var 24))], [(0, .blk 0 [.sl (.var 20) (.lit 0) (.var 22) (.var 23), .bool (.bvar 6)] 124), (1, .hp 25 [] [.var 20] [])], 30⟩ else none
  args := [TP (.var 0) (.lit 0), TI .u64 (.var 5)]
  mem := outMem
  nv := 8
  nd := oNumNd
  ok := by kernel_rfl
def oNumInv (all : List Int) (m : Nat) (_ : Nat) (q : Env) : Prop := ∃ (y : Nat) (done : List Int), q.i 24 = y ∧ done ++ numB y = all ∧ done.length ≤ m ∧ q.i 22 = done.length ∧ -1 ≤ q.i 20 ∧ 0 ≤ q.i 23 ∧ OwB (q.h 25) 5 (.slice (slP (q.i 20) 0) (q.i 22).toNat (q.i 23).toNat) done
theorem num_bound {z : Nat} (h : z < 18446744073709551616) : (numB z).length ≤ 10 := by
  refine numB_len 9 z (Nat.lt_of_lt_of_le h (by decide))
theorem oNumS_ok : oNumS.OK Tryd.prog := by
  refine Spec.of_fn (Γ := []) (fun _ h => by cases h) ?_
  rintro xs Hs Rs hl1 hl2 ⟨p, zv, H, bs, lg, rfl, rfl, ⟨a, x, c, F, rfl, h⟩, ⟨z, hz, hz0, hz1⟩, hlen⟩
  have hz : zv = .int .u64 z := by simpa using hz
  subst hz
  have e1 : Rs = [] := List.length_eq_zero_iff.1 hl2
  subst e1
  have hnb := num_bound (z := z.toNat) (by omega)
  refine ⟨oNumW, outEnv a x c bs.length lg F z [] Hl.none, oNumInv (bs ++ numB z.toNat) (bs.length + 10), fun _ q => (q.i 24).toNat, ?_, outEntry h z [] _, (fun _ h => nomatch h), ?_⟩
  · show [Value.pointer (slP (a : Int) 0), Value.int .u64 z] = _
    rw [ptr0]
  · show Nd.holds _ _ _ oNumNd
    generalize hρ : outEnv a x c bs.length lg F z [] Hl.none = ρ
    have v0 : ρ.i 0 = a := by rw [← hρ]; rfl
    have v1 : ρ.i 1 = x := by rw [← hρ]; rfl
    have v2 : ρ.i 2 = bs.length := by rw [← hρ]; rfl
    have v3 : ρ.i 3 = c := by rw [← hρ]; rfl
    have v5 : ρ.i 5 = z := by rw [← hρ]; rfl
    have b6 : ρ.b 6 = lg := by rw [← hρ]; rfl
    have w7 : ρ.h 7 = F := by rw [← hρ]; rfl
    clear hρ
    unfold oNumNd
    simp only [Nd.holds, X.pre, X.rel, X.n, Src.ok, Src.len, Src.vals, true_and, and_true, if_true, Nat.mul_one, Nat.add_zero, Nat.reduceAdd, List.length_cons, List.length_nil, bT_tt, bT_ff, bT_bvar, bT_not, bT_and, bT_or, bT_ite, bT_lt, bT_le, bT_eq, bT_beq, bT_seq, bT_hB, bT_his, bT_hby, bT_hism, bT_hks, iev_lit, iev_var, iev_add, iev_sub, iev_mul, iev_wrap, iev_ite, iev_hI, iev_hP, iev_hmlen, sev_ite, sev_slit, sev_sof, sev_svar, TV.ev, SV.ev, CV.ev, List.map_cons, List.map_nil, Res.hl]
    refine ⟨⟨z.toNat, bs, ?_, rfl, by omega, ?_, ?_, ?_, ?_⟩, fun q g ⟨y, done, e24, hall, hdl, e22, r20, r23, hO⟩ => ?_⟩
    · show ρ.i 5 = _
      rw [v5]; omega
    · show ρ.i 2 = _
      exact v2
    · show -1 ≤ ρ.i 1
      rw [v1]; exact h.rx
    · show 0 ≤ ρ.i 3
      rw [v3]; exact h.rc
    · show OwB (ρ.h 7) _ (.slice (slP (ρ.i 1) 0) (ρ.i 2).toNat (ρ.i 3).toNat) bs
      rw [w7, v1, v2, v3]; exact h.own
    have hal := congrArg List.length hall
    rw [List.length_append, List.length_append] at hal
    refine ⟨fun hge q1 g1 _ => ?_, fun hlt q1 g1 _ => ?_⟩
    · rw [g1.h 25 (by omega), g1.i 20 (by omega), g1.i 22 (by omega), g1.i 23 (by omega)]
      refine ⟨⟨⟨_, owB_pre hO e22⟩, by omega, by unfold maxLen; omega, by omega⟩, fun q2 g2 ⟨a1, a2, a3, _⟩ => ?_⟩
      rw [e24] at hge
      have hyh : numB y = ((y % 128 + 128 : Nat) : Int) :: numB (y / 128) := numB_high (by omega)
      have eb : iev q1 (.bits .or .u8 (.wrap .u8 (.var 24)) (.lit 128)) = ((y % 128 + 128 : Nat) : Int) := by
        show bitsI .or .u8 (IntKind.u8.wrap (q1.i 24)) 128 = _
        rw [g1.i 24 (by omega), e24]; exact more7
      rw [eb] at a3
      have hO2 := owB_app (bs2 := [((y % 128 + 128 : Nat) : Int)]) (m := 1) hO e22 rfl a3
      have e24' : iev q2 (.shr .u64 (.var 24) (.lit 7)) = ((y / 128 : Nat) : Int) := by
        show (q2.i 24).fdiv (2 ^ (7 : Int).toNat) = _
        rw [g2.i 24 (by omega), g1.i 24 (by omega), e24]; exact shr7
      refine ⟨⟨y / 128, done ++ [((y % 128 + 128 : Nat) : Int)], e24', ?_, ?_, ?_, a1, a2, ?_⟩, ?_⟩
      · rw [List.append_assoc, ← hall, hyh]; rfl
      · rw [List.length_append, List.length_singleton]
        rw [hyh, List.length_cons] at hal
        omega
      · show q2.i 22 + 1 = _
        rw [g2.i 22 (by omega), g1.i 22 (by omega), e22, List.length_append, List.length_singleton]; omega
      · show OwB (q2.h 31) _ (.slice (slP (q2.i 31) 0) (q2.i 22 + 1).toNat (q2.i 32).toNat) _
        rw [g2.i 22 (by omega), g1.i 22 (by omega), e22]
        have := hO2
        unfold svb at this
        rw [List.length_append, List.length_singleton] at this
        exact this
      · show (iev q2 (.shr .u64 (.var 24) (.lit 7))).toNat < (q.i 24).toNat
        rw [e24', e24]; omega
    · rw [g1.h 25 (by omega), g1.i 20 (by omega), g1.i 22 (by omega), g1.i 23 (by omega)]
      refine ⟨⟨⟨_, owB_pre hO e22⟩, by omega, by unfold maxLen; omega, by omega⟩, fun q2 g2 ⟨a1, a2, a3, _⟩ hd => ?_⟩
      rw [e24] at hlt
      have hyl : numB y = [(y : Int)] := numB_low (by omega)
      have eb : IntKind.u8.wrap (q1.i 24) = (y : Int) := by
        rw [g1.i 24 (by omega), e24, wu8]; omega
      rw [eb] at a3
      have hO2 := owB_app (bs2 := [(y : Int)]) (m := 1) hO e22 rfl a3
      rw [← hyl, hall] at hO2
      have G : Agree 8 ρ q2 := g.trans ((g1.mono (by omega)).trans (g2.mono (by omega)))
      refine ⟨[[0, 1]], [], rfl, rfl, ⟨⟨fun _ => 0, fun _ => false, fun _ => .empty, fun _ => .tuple #[], fun _ => Hl.none⟩, rfl, trivial⟩, _, _, H, bs, lg, _, rfl, rfl, ⟨a, x, c, F, rfl, h⟩, rfl, outOut (by rw [G.i 0 (by omega), v0]) a1 ?_ a2 (by rw [bev_bvar, G.b 6 (by omega), b6]) hO2 hd⟩
      show q2.i 22 + 1 = ((bs ++ numB z.toNat).length : Int)
      rw [g2.i 22 (by omega), g1.i 22 (by omega), e22, List.length_append]
      rw [hyl, List.length_singleton] at hal
      omega
end Go.Proofs.YtomdimlnggpgbaaDoor
