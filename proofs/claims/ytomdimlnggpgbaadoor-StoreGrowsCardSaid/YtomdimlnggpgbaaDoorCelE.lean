/- Layer 8: what a log's block is; reading a head, as a contract. No condition. -/
import Derived.Test.YtomdimlnggpgbaaDoorCelD
set_option linter.unusedSimpArgs false
set_option linter.unusedVariables false
set_option linter.constructorNameAsVariable false
namespace Go.Proofs.YtomdimlnggpgbaaDoor.D
open Go Go.Sx

structure LM where
  frm : Int
  most : Int
  serial : Int
  size : Int
  note : List Int
  over : Bool
structure LM.ok (L : LM) : Prop where
  frm : 0 ≤ L.frm ∧ L.frm ≤ 16384
  most : 0 ≤ L.most ∧ L.most ≤ 1048576
  note : L.note.length = 16
def lCells (dp sl : Value) (L : LM) : List Value := [dp, .int .i64 L.frm, .int .i64 L.most, .int .u64 L.serial, .int .u64 L.size] ++ (bys L.note ++ [sl, .bool L.over])
/-- A log's block, at a place. -/
def LogIn (R : Hl) (a : Nat) (dp sl : Value) (L : LM) : Prop := L.ok ∧ R a = some (.cells (lCells dp sl L).toArray 81 (0, 0))
def LogRd (R : Hl) (p dp sl : Value) (L : LM) : Prop := ∃ a : Nat, p = .pointer (some ⟨a, 0, none⟩) ∧ LogIn R a dp sl L
theorem lCells_inj {dp sl dp' sl' : Value} {L L' : LM} (h1 : L.note.length = 16) (h2 : L'.note.length = 16) (h : lCells dp sl L = lCells dp' sl' L') : dp = dp' ∧ sl = sl' ∧ L = L' := by
  unfold lCells at h
  obtain ⟨ha, hb⟩ := List.append_inj h rfl
  obtain ⟨hc, hd⟩ := List.append_inj hb (by rw [bys_length, bys_length, h1, h2])
  simp only [List.cons.injEq, Value.int.injEq, Value.bool.injEq, true_and, and_true] at ha hd
  obtain ⟨e0, e1, e2, e3, e4⟩ := ha
  have e5 := bys_inj hc
  obtain ⟨x1, x2, x3, x4, x5, x6⟩ := L
  obtain ⟨y1, y2, y3, y4, y5, y6⟩ := L'
  simp only at e1 e2 e3 e4 e5 hd
  obtain ⟨e6, e7⟩ := hd
  subst e1 e2 e3 e4 e5 e7
  exact ⟨e0, e6, rfl⟩
theorem LogRd.uniq {R : Hl} {p dp sl dp' sl' : Value} {L L' : LM} (h : LogRd R p dp sl L) (h' : LogRd R p dp' sl' L') : dp = dp' ∧ sl = sl' ∧ L = L' := by
  obtain ⟨a, rfl, ho, h⟩ := h
  obtain ⟨a', he, ho', h'⟩ := h'
  simp only [Value.pointer.injEq, Option.some.injEq, Addr.mk.injEq, and_true] at he
  subst he
  rw [h] at h'
  simp only [Option.some.injEq, Obj.cells.injEq, and_true] at h'
  exact lCells_inj ho.note ho'.note (congrArg Array.toList h')
theorem LogIn.cell {R : Hl} {a : Nat} {dp sl : Value} {L : LM} (h : LogIn R a dp sl L) (j : Nat) : R.cell a j = (lCells dp sl L)[j]? := by
  unfold Hl.cell; rw [h.2]; simp
theorem LogIn.mono {R R' : Hl} {a : Nat} {dp sl : Value} {L : LM} (h : LogIn R a dp sl L) (hl : R.le R') : LogIn R' a dp sl L := ⟨h.1, hl _ _ h.2⟩
theorem LogRd.mono {R R' : Hl} {p dp sl : Value} {L : LM} (h : LogRd R p dp sl L) (hl : R.le R') : LogRd R' p dp sl L := by
  obtain ⟨a, e, h⟩ := h
  exact ⟨a, e, h.mono hl⟩

/-! ### A head of two like halves -/
def zeros18 : List Int := List.replicate 18 0
def headI (x : List Int) : List Int := [bigI (x.take 8), bigI ((x.drop 8).take 8)] ++ (x.drop 16).take 16
/-- A head's cells. -/
def hdV (h : List Int) : List Value := [.int .u64 (h.getD 0 0), .int .u64 (h.getD 1 0)] ++ bys (h.drop 2)
def goodH (b : List Int) (most place : Int) : Prop := b.take 32 = b.drop 32 ∧ (bigI ((b.take 32).take 8)).tmod 2 = place ∧ bigI (((b.take 32).drop 8).take 8) ≤ most
instance (b : List Int) (most place : Int) : Decidable (goodH b most place) := by unfold goodH; infer_instance
def lreadR (D : DM) (frm most place : Int) : List Int × Int :=
  if (readR D (frm + place)).2 ≠ 0 then (zeros18, (readR D (frm + place)).2)
  else if goodH (readR D (frm + place)).1 most place then (headI ((readR D (frm + place)).1.take 32), 0) else (zeros18, 0)
def lreadS : Sx.Spec where
  fn := 39
  own := [.link 0 0]
  rd := [0]
  res := [.agg hdk, .one (.int .i64)]
  pre := fun xs Hs Rs => ∃ p place H R dp sl L D, xs = [p, .int .u64 place] ∧ Hs = [H] ∧ Rs = [R] ∧ LogRd R p dp sl L ∧ DiskAt H dp D ∧ (place = 0 ∨ place = 1)
  post := fun xs Hs Rs v Hs' F => ∃ p place H R dp sl L D H', xs = [p, .int .u64 place] ∧ Hs = [H] ∧ Rs = [R] ∧ LogRd R p dp sl L ∧ DiskAt H dp D ∧ Hs' = [H'] ∧ DiskAt H' dp D ∧
    v = .tuple #[.agg (hdV (lreadR D L.frm L.most place).1).toArray, .int .i64 (lreadR D L.frm L.most place).2]
def readY : E := .ite (.eq (.var 8) (.lit 32)) (.var 6) (.add (.var 6) (.lit 32))
def eqE (f g : Nat → E) : Nat → Nat → E
  | 0, j => .eq (f j) (g j)
  | n + 1, j => .and (.eq (f j) (g j)) (eqE f g n (j + 1))
theorem eqE_bev {q : Env} {f g : Nat → E} : ∀ (n j : Nat), bev q (eqE f g n j) = true ↔ ∀ i, j ≤ i → i ≤ j + n → iev q (f i) = iev q (g i)
  | 0, j => by
    unfold eqE
    rw [bT_eq]
    exact ⟨fun h i h1 h2 => by obtain rfl : i = j := by omega
                               exact h, fun h => h j (by omega) (by omega)⟩
  | n + 1, j => by
    unfold eqE
    rw [bT_and, bT_eq, eqE_bev n (j + 1)]
    refine ⟨fun ⟨h1, h2⟩ i a b => ?_, fun h => ⟨h j (by omega) (by omega), fun i a b => h i (by omega) (by omega)⟩⟩
    rcases Nat.lt_or_ge j i with h | h
    · exact h2 i (by omega) (by omega)
    · obtain rfl : i = j := by omega
      exact h1
def readEq : E := eqE (fun j => .hI 6 (.var 5) (.var 6) j) (fun j => .hI 6 (.var 5) readY j) 31 0
def lreadNd : Nd := .ext (.alloc 4) (.and (.e (.le (.lit 0) (.var 0))) (.and (.e (.his 2 (.var 0) (.lit 0) 0 .ptr)) (.and (.e (.his 2 (.var 0) (.lit 1) 0 (.int .i64))) (.and (.pre (.call 0 5 [.sv (.one (.hptr (.hP 2 (.var 0) (.lit 0) 0 0) (.hP 2 (.var 0) (.lit 0) 0 1))), .sv (.one (.int .i64 (.wrap .i64 (.add (.hI 2 (.var 0) (.lit 1) 0) (.wrap .i64 (.var 1))))))] [.hp 3 [] [.hP 2 (.var 0) (.lit 0) 0 0] []] [])) (.ext (.call 0 5 [.sv (.one (.hptr (.hP 2 (.var 0) (.lit 0) 0 0) (.hP 2 (.var 0) (.lit 0) 0 1))), .sv (.one (.int .i64 (.wrap .i64 (.add (.hI 2 (.var 0) (.lit 1) 0) (.wrap .i64 (.var 1))))))] [.hp 3 [] [.hP 2 (.var 0) (.lit 0) 0 0] []] []) (.and (.imp (.not (.eq (.var 9) (.lit 0))) (.post [.hp 5 [3] [.hP 2 (.var 0) (.lit 0) 0 0] [], .ro 2 [.var 0] false, .dead, .hp 6 [] [.var 5] []] (.tup [.agg ([.int .u64 (.lit 0), .int .u64 (.lit 0)] ++ List.replicate 16 (CV.int .u8 (.lit 0))), .one (.int .i64 (.var 9))]))) (.imp (.eq (.var 9) (.lit 0)) (.and (.e (.le (.lit (-1)) (.var 5))) (.and (.e (.le (.lit 0) (.var 6))) (.and (.e (.le (.lit 32) (.var 8))) (.and (.e (.le (.lit 0) (.var 5))) (.and (.e (.hby 6 (.var 5) (.var 6) (.lit 32))) (.and (.e (.le (.lit 32) (.var 7))) (.and (.e (.le (.var 7) (.var 8))) (.and (.e (.le (.lit 32) (.sub (.var 7) (.lit 32)))) (.and (.e (.le (.lit 0) readY)) (.and (.e (.hby 6 (.var 5) readY (.lit 32))) (.ext (.alloc 10) (.ext (.alloc 11) (.and (.pre (.call 1 12 [.sv (.agg (romCells 6 (.var 5) (.var 6) 0 (List.replicate 32 (Kd.int .u8))))] [] [])) (.ext (.call 1 12 [.sv (.agg (romCells 6 (.var 5) (.var 6) 0 (List.replicate 32 (Kd.int .u8))))] [] []) (.ext (.alloc 30) (.and (.imp (.not readEq) (.post [.hp 5 [3] [.hP 2 (.var 0) (.lit 0) 0 0] [], .ro 2 [.var 0] false, .dead, .hp 6 [] [.var 5] [], .dead, .dead, .dead] (.tup [.agg ([.int .u64 (.lit 0), .int .u64 (.lit 0)] ++ List.replicate 16 (CV.int .u8 (.lit 0))), .one (.int .i64 (.lit 0))]))) (.imp readEq (.and (.imp (.not (.eq (.rem (.var 12) (.lit 2)) (.var 1))) (.post [.hp 5 [3] [.hP 2 (.var 0) (.lit 0) 0 0] [], .ro 2 [.var 0] false, .dead, .hp 6 [] [.var 5] [], .dead, .dead, .dead] (.tup [.agg ([.int .u64 (.lit 0), .int .u64 (.lit 0)] ++ List.replicate 16 (CV.int .u8 (.lit 0))), .one (.int .i64 (.lit 0))]))) (.imp (.eq (.rem (.var 12) (.lit 2)) (.var 1)) (.and (.e (.his 2 (.var 0) (.lit 2) 0 (.int .i64))) (.and (.imp (.lt (.wrap .u64 (.hI 2 (.var 0) (.lit 2) 0)) (.var 13)) (.post [.hp 5 [3] [.hP 2 (.var 0) (.lit 0) 0 0] [], .ro 2 [.var 0] false, .dead, .hp 6 [] [.var 5] [], .dead, .dead, .dead] (.tup [.agg ([.int .u64 (.lit 0), .int .u64 (.lit 0)] ++ List.replicate 16 (CV.int .u8 (.lit 0))), .one (.int .i64 (.lit 0))]))) (.imp (.not (.lt (.wrap .u64 (.hI 2 (.var 0) (.lit 2) 0)) (.var 13))) (.post [.hp 5 [3] [.hP 2 (.var 0) (.lit 0) 0 0] [], .ro 2 [.var 0] false, .dead, .hp 6 [] [.var 5] [], .dead, .dead, .dead] (.tup [.agg (ckCVs 12 ([Ck.int .u64, Ck.int .u64] ++ List.replicate 16 (Ck.int .u8))), .one (.int .i64 (.lit 0))])))))))))))))))))))))))))))))))
def lreadΓ : List Sx.Spec := [readS, headOfS]
theorem lreadΓ_ok : ∀ t ∈ lreadΓ, t.OK Tryd.prog := fun t ht => by
  simp only [lreadΓ, List.mem_cons, List.mem_nil_iff, or_false] at ht
  rcases ht with rfl | rfl
  · exact readS_ok
  · exact headOfS_ok
def lreadW : Walk Tryd.prog lreadΓ lreadS.fn where
  Λ := noLoops
  args := [TP (.var 0) (.lit 0), TI .u64 (.var 1)]
  mem := [.hp 3 [] [.hP 2 (.var 0) (.lit 0) 0 0] [], .ro 2 [.var 0] false]
  nv := 4
  nd := lreadNd
  ok := by kernel_rfl
theorem rg0 : lreadΓ[0]? = some readS := rfl
theorem rg1 : lreadΓ[1]? = some headOfS := rfl
theorem rr0 : readS.res = [.one .sl, .one (.int .i64)] := rfl
theorem rr1 : headOfS.res = [.agg hdk] := rfl
theorem rc0 : (cpRoots 0 [Cp.one .sl, Cp.one (.int .i64)] ≠ []) = True := by simp [cpRoots, Cp.roots, Ck.root]
theorem normsW_bytes (q : Env) : ∀ (m n : Nat), ckNormsW n (List.replicate m (Ck.int .u8)) q
  | 0, _ => trivial
  | m + 1, n => ⟨trivial, normsW_bytes q m (n + 1)⟩
theorem OwB.cap {F : Hl} {e : TypeId} {x y l c : Int} {bs : List Int} (h : OwB F e (.slice (slP x y) l.toNat c.toNat) bs) (hl : 0 ≤ l) (hc : 0 ≤ c) : l ≤ c := by
  obtain ⟨_, h⟩ := h
  rcases h with ⟨h, _⟩ | ⟨g, cap, cur, h, _, hle, _⟩
  · simp only [Value.slice.injEq] at h; omega
  · simp only [Value.slice.injEq] at h; omega
theorem readR_ok {D : DM} (h : D.ok) {i : Int} (e : (readR D i).2 = 0) : D.has i = true ∧ D.gone = false ∧ (readR D i).1 = D.sector i ∧ (D.sector i).length = 64 := by
  unfold readR at e ⊢
  split at e
  · cases e
  · rename_i h1
    have h1 : D.has i = true := by simpa using h1
    rw [if_neg (by simp [h1])]
    split at e
    · cases e
    · rename_i h2
      rw [if_neg h2]
      exact ⟨h1, by simpa using h2, rfl, sector_length h h1⟩
theorem headOf_pre {x : List Int} (h : x.length = 32) : headOfS.pre [.agg (bys x).toArray] [] [] := by
  obtain ⟨c, _, _, ec⟩ := row_rep (u8s 32) 0 (bys x) ⟨fun _ => 0, fun _ => false, fun _ => .empty, fun _ => .tuple #[], fun _ => Hl.none⟩ (rowOK_bys 32 _ h)
  refine ⟨⟨c, ⟨normsW_bytes c 32 0, trivial⟩, ?_⟩, trivial⟩
  show [Value.agg (bys x).toArray] = [Value.agg ((ckCVs 0 (u8s 32)).map (CV.ev c)).toArray]
  rw [ec]
theorem lreadS_ok : lreadS.OK Tryd.prog := by
  refine Spec.of_fn (Γ := lreadΓ) lreadΓ_ok ?_
  rintro xs Hs Rs hl1 hl2 ⟨p, place, H, R, dp, sl, L, D, rfl, rfl, rfl, ⟨a, rfl, hL⟩, hD, hpl⟩
  obtain ⟨da, s, m, es, clock, rfl, hDi⟩ := hD
  refine ⟨lreadW, envI [a, place] false [Hl.none, Hl.none, R, H], fun _ _ => True, fun _ _ => 0, ?_, ⟨?_, ?_, ?_, ?_⟩, (fun _ h => nomatch h), ?_⟩
  · show [Value.pointer (slP (a : Int) 0), Value.int .u64 place] = _; rw [dArg]
  · intro r hr ho
    simp [lreadW] at hr
    rcases hr with rfl | rfl
    · exact ⟨H, by simp, Hl.le_refl _⟩
    · cases ho
  · intro r hr ho
    simp [lreadW] at hr
    rcases hr with rfl | rfl
    · cases ho
    · exact ⟨R, by simp, Hl.le_refl _⟩
  · simp [lreadW, Res.own]
  · intro r hr
    simp [lreadW] at hr
    rcases hr with rfl | rfl <;> trivial
  · show Nd.holds _ _ _ lreadNd
    generalize hρ : envI [(a : Int), place] false [Hl.none, Hl.none, R, H] = ρ
    have v0 : ρ.i 0 = a := by rw [← hρ]; rfl
    have v1 : ρ.i 1 = place := by rw [← hρ]; rfl
    have w2 : ρ.h 2 = R := by rw [← hρ]; rfl
    have w3 : ρ.h 3 = H := by rw [← hρ]; rfl
    unfold lreadNd
    simp only [Nd.holds, X.pre, X.rel, X.n, Src.ok, Src.len, Src.vals, true_and, and_true, if_true, Nat.mul_one, Nat.add_zero, Nat.reduceAdd, List.length_cons, List.length_nil, bT_tt, bT_ff, bT_bvar, bT_not, bT_and, bT_or, bT_ite, bT_lt, bT_le, bT_eq, bT_beq, bT_seq, bT_hB, bT_his, bT_hby, bT_hism, bT_hks, iev_lit, iev_var, iev_add, iev_sub, iev_mul, iev_wrap, iev_ite, iev_hI, iev_hP, iev_hmlen, sev_ite, sev_slit, sev_sof, sev_svar, TV.ev, SV.ev, CV.ev, List.map_cons, List.map_nil, Res.hl, cpTV, Cp.sv, Ck.cv, cpSVs, Cp.len, Ck.len, newHs_zero, newHs_one, roots_ne, rg0, rg1, rr0, rr1, rc0]
    intro q0 g0 _
    have hDA : DiskAt H (.pointer (some ⟨da, 0, none⟩)) D := ⟨da, s, m, es, clock, rfl, hDi⟩
    have t0 : Int.toNat 0 = 0 := rfl
    have t1 : Int.toNat 1 = 1 := rfl
    have t2 : Int.toNat 2 = 2 := rfl
    have t32 : Int.toNat 32 = 32 := rfl
    have c0 : R.cell a 0 = some (.pointer (some ⟨da, 0, none⟩)) := by rw [hL.cell]; rfl
    have c1 : R.cell a 1 = some (.int .i64 L.frm) := by rw [hL.cell]; rfl
    have c2 : R.cell a 2 = some (.int .i64 L.most) := by rw [hL.cell]; rfl
    obtain ⟨f0, f1⟩ := hL.1.frm
    obtain ⟨m0, m1⟩ := hL.1.most
    have ep : Value.pointer (slP (valP (R.cell a 0) 0) (valP (R.cell a 0) 1)) = .pointer (some ⟨da, 0, none⟩) := by rw [c0]; exact dArg da
    have ei : IntKind.i64.wrap (valI (R.cell a 1) + IntKind.i64.wrap place) = L.frm + place := by
      rw [c1]
      show IntKind.i64.wrap (L.frm + IntKind.i64.wrap place) = _
      rw [wrap_i64 (n := place) (by omega) (by omega)]
      exact wrap_i64 (by omega) (by omega)
    rw [g0.i 0 (by omega), v0, g0.h 2 (by omega), w2, g0.i 1 (by omega), v1, g0.h 3 (by omega), w3, Int.toNat_natCast, t0, t1, ep, ei]
    refine ⟨by omega, by rw [c0]; rfl, by rw [c1]; rfl, ⟨_, L.frm + place, H, D, rfl, rfl, hDA⟩, fun q1 g1 ⟨F, ⟨p', i', H', D', H2, u, hx, hH, hD', hH2, hD2, hv, hO⟩, hF, hn⟩ => ?_⟩
    cases hx
    cases hH
    have e := hD'.uniq hDA
    subst e
    obtain ⟨⟨n5, n6, n7, n8⟩, _⟩ := hn
    have n6 : 0 ≤ q1.i 6 := n6
    have n7 : 0 ≤ q1.i 7 := n7
    have n8 : 0 ≤ q1.i 8 := n8
    simp only [Value.tuple.injEq, Array.mk.injEq, List.cons.injEq, Value.int.injEq, true_and, and_true] at hv hH2
    obtain ⟨rfl, h9⟩ := hv
    have hF := hF trivial
    subst hF
    have out : ∀ (q : Env) (t : Mem) (r : TV) (h : List Int) (e : Int) (ρ2 : Env), Agree 10 q1 q → lreadR D' L.frm L.most place = (h, e) → r.ev q = (cpTV 0 lreadS.res).ev ρ2 → r.ev q = .tuple #[.agg (hdV h).toArray, .int .i64 e] →
        postOf lreadS [.pointer (some ⟨a, 0, none⟩), .int .u64 place] [H] [R] q (.hp 5 [3] [.hP 2 (.var 0) (.lit 0) 0 0] [] :: t) r := by
      intro q t r h e ρ2 hq hr h1 h2 _
      refine ⟨[[0]], [], rfl, rfl, ⟨ρ2, h1, ckNorms_pure _ _ _ (by decide), trivial, trivial⟩, _, place, H, R, _, sl, L, D', _, rfl, rfl, rfl, ⟨a, rfl, hL⟩, hDA, rfl, ?_, ?_⟩
      · show DiskAt (hls [q.h 5]) _ _
        rw [hls_one, hq.h 5 (by omega), hH2]
        exact hD2
      · rw [h2, hr]
    have zero : ∀ (q : Env) (t : Mem) (x : E) (e : Int), Agree 10 q1 q → lreadR D' L.frm L.most place = (zeros18, e) → iev q x = e →
        postOf lreadS [.pointer (some ⟨a, 0, none⟩), .int .u64 place] [H] [R] q (.hp 5 [3] [.hP 2 (.var 0) (.lit 0) 0 0] [] :: t) (.tup [.agg ([.int .u64 (.lit 0), .int .u64 (.lit 0)] ++ List.replicate 16 (CV.int .u8 (.lit 0))), .one (.int .i64 x)]) := by
      intro q t x e hq hr hx
      refine out q t _ zeros18 e ⟨fun k => if k = 18 then e else 0, fun _ => false, fun _ => .empty, fun _ => .tuple #[], fun _ => Hl.none⟩ hq hr ?_ ?_
      · subst hx; rfl
      · subst hx; rfl
    refine ⟨fun h => zero q1 _ _ _ (Agree.refl _ _) ?_ (by rw [iev_var]), fun h => ?_⟩
    · unfold lreadR
      rw [← h9, if_pos h]
    · rw [h] at h9
      obtain ⟨hh, hg, hs, hl⟩ := readR_ok hDi.ok h9.symm
      obtain ⟨b, hb⟩ : ∃ b, b = (readR D' (L.frm + place)).1 := ⟨_, rfl⟩
      rw [← hb] at hO hs
      have hbl : b.length = 64 := by rw [hs]; exact hl
      have hat := hO.rd.at n5 n6 n7
      obtain ⟨e7, hc⟩ := hat
      rw [hbl] at e7
      have hc : 0 ≤ q1.i 5 ∧ ∀ j z, b[j]? = some z → (q1.h 6).cell (q1.i 5).toNat ((q1.i 6).toNat + j) = some (.int .u8 z) := by
        rcases hc with ⟨_, hc⟩ | hc
        · rw [hc] at hbl; cases hbl
        · exact hc
      obtain ⟨p5, hc⟩ := hc
      have hcap := OwB.cap hO n7 n8
      have eY : ∀ q, Agree 10 q1 q → iev q readY = q1.i 6 + 32 := by
        intro q g
        unfold readY
        rw [iev_ite, if_neg (by rw [bT_eq, iev_var, iev_lit, g.i 8 (by omega)]; omega), iev_add, iev_var, iev_lit, g.i 6 (by omega)]
      rw [eY q1 (Agree.refl _ _), t32]
      refine ⟨n5, n6, by omega, p5, cells_bytes hc (by omega), by omega, by omega, by omega, by omega, ?_, fun q2 g2 _ q3 g3 _ => ?_⟩
      · refine cells_bytes (bs := b.drop 32) (fun j z hz => ?_) (by rw [List.length_drop]; omega)
        rw [List.getElem?_drop] at hz
        have := hc _ _ hz
        rw [show (q1.i 6 + 32).toNat + j = (q1.i 6).toNat + (32 + j) by omega]
        exact this
      have G3 : Agree 10 q1 q3 := g2.trans (g3.mono (by omega))
      have hxl : (b.take 32).length = 32 := by rw [List.length_take]; omega
      have hrom : (romCells 6 (E.var 5) (E.var 6) 0 (List.replicate 32 (Kd.int IntKind.u8))).map (CV.ev q3) = bys (b.take 32) := by
        refine romCells_ev 32 0 _ hxl fun i z hz => ?_
        rw [List.getElem?_take] at hz
        split at hz
        · rw [iev_var, iev_var, G3.h 6 (by omega), G3.i 5 (by omega), G3.i 6 (by omega), Nat.zero_add]
          exact hc _ _ hz
        · cases hz
      rw [hrom]
      refine ⟨headOf_pre hxl, fun q4 g4 ⟨F4, hp4, _, _⟩ q5 g5 _ => ?_⟩
      have hp4 : Value.agg (List.map (CV.ev q4) (ckCVs 12 hdk)).toArray = Value.agg (headV (intsOf (.agg (bys (b.take 32)).toArray))).toArray := hp4
      rw [intsOf_bys] at hp4
      have hp4 : List.map (CV.ev q4) (ckCVs 12 hdk) = headV (b.take 32) := by simpa using hp4
      have i12 : q4.i 12 = bigI ((b.take 32).take 8) := by
        have := congrArg (fun l => l[0]?) hp4
        simpa [hdk, ckCVs, Ck.cv, CV.ev, headV, iev_var] using this
      have i13 : q4.i 13 = bigI (((b.take 32).drop 8).take 8) := by
        have := congrArg (fun l => l[1]?) hp4
        simpa [hdk, ckCVs, Ck.cv, CV.ev, headV, iev_var, Ck.len] using this
      have G5 : Agree 10 q1 q5 := (G3.trans (g4.mono (by omega))).trans (g5.mono (by omega))
      have j12 : q5.i 12 = bigI ((b.take 32).take 8) := by rw [g5.i 12 (by omega), i12]
      have j13 : q5.i 13 = bigI (((b.take 32).drop 8).take 8) := by rw [g5.i 13 (by omega), i13]
      have heq : bev q5 readEq = true ↔ b.take 32 = b.drop 32 := by
        unfold readEq
        rw [eqE_bev]
        have ex : ∀ i : Nat, i ≤ 31 → iev q5 (.hI 6 (.var 5) (.var 6) i) = b.getD i 0 ∧ iev q5 (.hI 6 (.var 5) readY i) = b.getD (32 + i) 0 := by
          intro i hi
          rw [iev_hI, iev_hI, iev_var, iev_var, eY q5 G5, G5.i 5 (by omega), G5.i 6 (by omega), G5.h 6 (by omega)]
          rw [hc i _ (List.getElem?_eq_getElem (by omega)), show (q1.i 6 + 32).toNat + i = (q1.i 6).toNat + (32 + i) by omega, hc (32 + i) _ (List.getElem?_eq_getElem (by omega))]
          simp only [List.getD_eq_getElem?_getD]
          rw [List.getElem?_eq_getElem (by omega), List.getElem?_eq_getElem (by omega)]
          exact ⟨rfl, rfl⟩
        constructor
        · intro h
          apply List.ext_getElem?
          intro j
          rcases Nat.lt_or_ge j 32 with hj | hj
          · have := h j (by omega) (by omega)
            rw [(ex j (by omega)).1, (ex j (by omega)).2] at this
            rw [List.getElem?_take_of_lt hj, List.getElem?_drop, List.getElem?_eq_getElem (by omega), List.getElem?_eq_getElem (by omega)]
            simp only [List.getD_eq_getElem?_getD] at this
            rw [List.getElem?_eq_getElem (by omega), List.getElem?_eq_getElem (by omega)] at this
            exact congrArg some this
          · rw [List.getElem?_eq_none (by rw [List.length_take]; omega), List.getElem?_eq_none (by rw [List.length_drop]; omega)]
        · intro h i _ hi
          rw [(ex i (by omega)).1, (ex i (by omega)).2]
          have this : (b.take 32)[i]? = (b.drop 32)[i]? := congrArg (fun l => l[i]?) h
          rw [List.getElem?_take_of_lt (by omega), List.getElem?_drop] at this
          rw [List.getD_eq_getElem?_getD, List.getD_eq_getElem?_getD, this]
      rw [heq, iev_rem, iev_var, iev_lit, j12, j13, g5.i 1 (by omega), g4.i 1 (by omega), g3.i 1 (by omega), g2.i 1 (by omega), g1.i 1 (by omega), g0.i 1 (by omega), v1]
      rw [g5.i 0 (by omega), g4.i 0 (by omega), g3.i 0 (by omega), g2.i 0 (by omega), g1.i 0 (by omega), g0.i 0 (by omega), v0]
      rw [g5.h 2 (by omega), g4.h 2 (by omega), g3.h 2 (by omega), g2.h 2 (by omega), g1.h 2 (by omega), g0.h 2 (by omega), w2, Int.toNat_natCast, t2, c2]
      have hw : IntKind.u64.wrap (valI (some (.int .i64 L.most))) = L.most := by show IntKind.u64.wrap L.most = _; exact wrap_u64 m0 (by omega)
      rw [hw]
      have hl : lreadR D' L.frm L.most place = if goodH b L.most place then (headI (b.take 32), 0) else (zeros18, 0) := by
        unfold lreadR
        rw [if_neg (by rw [← h9]; simp), ← hb]
      refine ⟨fun h1 => zero q5 _ _ _ G5 (by rw [hl, if_neg fun h => h1 h.1]) (iev_lit _ _), fun h1 => ⟨fun h2 => zero q5 _ _ _ G5 (by rw [hl, if_neg fun h => h2 h.2.1]) (iev_lit _ _), fun h2 => ⟨rfl, fun (h3 : L.most < bigI (((b.take 32).drop 8).take 8)) => zero q5 _ _ _ G5 (by rw [hl, if_neg fun h => Int.not_le.2 h3 h.2.2]) (iev_lit _ _), fun (h3 : ¬ L.most < bigI (((b.take 32).drop 8).take 8)) => ?_⟩⟩⟩
      refine out q5 _ _ (headI (b.take 32)) 0 ⟨fun k => if k = 18 then 0 else q5.i (12 + k), fun _ => false, fun _ => .empty, fun _ => .tuple #[], fun _ => Hl.none⟩ G5 (by rw [hl, if_pos ⟨h1, h2, Int.not_lt.1 h3⟩]) ?_ ?_
      · rfl
      · show Value.tuple #[Value.agg (List.map (CV.ev q5) (ckCVs 12 hdk)).toArray, _] = _
        have e5 : List.map (CV.ev q5) (ckCVs 12 hdk) = List.map (CV.ev q4) (ckCVs 12 hdk) := CV.agreeL (g5.mono (by decide)) _ (ckCVs_upto hdk 12)
        rw [e5, hp4]
        rfl
end Go.Proofs.YtomdimlnggpgbaaDoor.D
