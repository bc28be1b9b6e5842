/- Layer 9: a store, piece by piece; store.Open as a contract. No condition. -/
import Derived.Test.YtomdimlnggpgbaaDoorStF
import Derived.Test.YtomdimlnggpgbaaDoorCelL
import Derived.Test.YtomdimlnggpgbaaDoorCelP
set_option linter.unusedSimpArgs false
set_option linter.unusedVariables false
set_option linter.constructorNameAsVariable false
namespace Go.Sx
open Go
theorem hls4_le {A B C D : Hl} (h1 : A.dis B) (h2 : A.dis C) (h3 : A.dis D) (h4 : B.dis C) (h5 : B.dis D) (h6 : C.dis D) : A.le (hls [A, B, C, D]) ∧ B.le (hls [A, B, C, D]) ∧ C.le (hls [A, B, C, D]) ∧ D.le (hls [A, B, C, D]) := by
  obtain ⟨r1, r2, r3⟩ := hls3_le h4 h5 h6
  have hd : A.dis (hls [B, C, D]) := by
    show A.dis (B.un (C.un (D.un Hl.none)))
    exact Hl.dis_un h1 (Hl.dis_un h2 (Hl.dis_un h3 (Hl.dis_none _)))
  have hr : (hls [B, C, D]).le (hls [A, B, C, D]) := Hl.un_right hd
  exact ⟨Hl.un_left _ _, fun k o h => hr k o (r1 k o h), fun k o h => hr k o (r2 k o h), fun k o h => hr k o (r3 k o h)⟩
theorem RdB.mono {R R' : Hl} (hl : R.le R') {u : Value} {bs : List Int} (h : RdB R u bs) : RdB R' u bs := by
  obtain ⟨x, y, c, hv, hy, h⟩ := h
  refine ⟨x, y, c, hv, hy, h.imp id fun ⟨h0, h⟩ => ⟨h0, fun j z hz => ?_⟩⟩
  have := h j z hz
  unfold Hl.cell at this ⊢
  split at this
  · rename_i o c' T fr ho
    rw [hl _ _ ho]; exact this
  · cases this
end Go.Sx
namespace Go.Proofs.YtomdimlnggpgbaaDoor.D
open Go Go.Sx
/-- A log that is read. -/
def LogR (H : Hl) (p dp : Value) (L : LM) (bs : List Int) : Prop := ∃ sl, LogRd H p dp sl L ∧ RdB H sl bs
theorem LogR.mono {R R' : Hl} (hl : R.le R') {p dp : Value} {L : LM} {bs : List Int} (h : LogR R p dp L bs) : LogR R' p dp L bs := by
  obtain ⟨sl, h1, h2⟩ := h
  exact ⟨sl, LogRd.mono h1 hl, RdB.mono hl h2⟩
theorem LogAt.rd {H : Hl} {p dp : Value} {L : LM} {bs : List Int} (h : LogAt H p dp L bs) : LogR H p dp L bs := h.parts
theorem LogR.uniq {H : Hl} {p dp dp' : Value} {L L' : LM} {bs bs' : List Int} (h : LogR H p dp L bs) (h' : LogR H p dp' L' bs') : dp = dp' ∧ L = L' ∧ bs = bs' := by
  obtain ⟨sl, h1, h2⟩ := h
  obtain ⟨sl', h1', h2'⟩ := h'
  obtain ⟨e1, rfl, e3⟩ := h1.uniq h1'
  exact ⟨e1, e3, h2.uniq h2'⟩
/-! ### Contracts at known logs -/
theorem sectors_post {dp v : Value} {H H' F : Hl} {D : DM} (hD : DiskAt H dp D) (hp : sectorsS.post [dp] [H] [] v [H'] F) : DiskAt H' dp D ∧ v = .int .i64 D.n := by
  obtain ⟨p', Hx, D', H2, hx, hH, hD', hH2, hD2, hv⟩ := hp
  simp only [List.cons.injEq, and_true] at hx hH hH2
  subst hx hH
  have e := hD'.uniq hD
  subst e
  rw [← hH2] at hD2
  exact ⟨hD2, hv⟩
theorem open_post {dp v : Value} {frm n : Int} {H H' F : Hl} {D : DM} (hD : DiskAt H dp D) (hp : openS.post [dp, .int .i64 frm, .int .i64 n] [H] [] v [H'] F) :
    ∃ pv, DiskAt H' dp D ∧ v = .tuple #[pv, .int .i64 (openE D frm n)] ∧ (openE D frm n = 0 → LogAt F pv dp (openL D frm n) (openB D frm n)) ∧ (openE D frm n ≠ 0 → pv = .pointer none) := by
  obtain ⟨dp', frm', n', Hx, D', H'', pv, hx, hH, hDx, hH', hDy, hv, hl⟩ := hp
  have hx : dp = dp' ∧ frm = frm' ∧ n = n' := by simpa using hx
  obtain ⟨e1, e2, e3⟩ := hx
  subst e1 e2 e3
  have hH : H = Hx := by simpa using hH
  subst hH
  have e := hDx.uniq hD
  subst e
  have hH' : H' = H'' := by simpa using hH'
  subst hH'
  exact ⟨pv, hDy, hv, hl⟩
theorem append_post {p u dp v : Value} {nt b bs : List Int} {H HD R F : Hl} {K : List Hl} {L : LM} {D : DM} (h1 : LogAt H p dp L bs) (h2 : DiskAt HD dp D) (h3 : RdW R u b) (hp : appendS.post [p, u, .agg (bys nt).toArray] [H, HD] [R] v K F) :
    ∃ H' HD', K = [H', HD'] ∧ DiskAt HD' dp (appendR D L bs b nt).D ∧ LogAt H' p dp (appendR D L bs b nt).L (appendR D L bs b nt).bs ∧ v = .int .i64 (appendR D L bs b nt).e := by
  obtain ⟨p', u', b', nt', Hx, HDx, Rx, dp', L', bs', D', H', HD', hx, hH, hR, hLx, hDx, hBx, hK, hDy, hLy, hv⟩ := hp
  have hx : p = p' ∧ u = u' ∧ bys nt = bys nt' := by simpa using hx
  obtain ⟨e1, e2, e3⟩ := hx
  have e3 := bys_inj e3
  subst e1 e2 e3
  have hH : H = Hx ∧ HD = HDx := by simpa using hH
  obtain ⟨e1, e2⟩ := hH
  subst e1 e2
  have hR : R = Rx := by simpa using hR
  subst hR
  obtain ⟨e1, e2, e3⟩ := hLx.uniq h1
  subst e1 e2 e3
  have e := hDx.uniq h2
  subst e
  have e := hBx.uniq h3
  subst e
  exact ⟨H', HD', hK, hDy, hLy, hv⟩
theorem bytes_pre {p dp : Value} {H : Hl} {L : LM} {bs : List Int} (h : LogR H p dp L bs) (hb : bs.length ≤ 1048576) : bytesS.pre [p] [] [H, H] := by
  obtain ⟨sl, h1, h2⟩ := h
  exact ⟨p, H, H, dp, sl, L, bs, rfl, rfl, h1, h2, hb⟩
theorem bytes_post {p dp v : Value} {H F : Hl} {K : List Hl} {L : LM} {bs : List Int} (h : LogR H p dp L bs) (hp : bytesS.post [p] [] [H, H] v K F) : OwB F 5 v bs := by
  obtain ⟨sl, h1, h2⟩ := h
  obtain ⟨p', R1, R2, dp', sl', L', bs', hx, hR, hLx, hBx, hO⟩ := hp
  have hx : p = p' := by simpa using hx
  subst hx
  have hR : H = R1 ∧ H = R2 := by simpa using hR
  obtain ⟨e1, e2⟩ := hR
  subst e1 e2
  obtain ⟨e1, e2, e3⟩ := hLx.uniq h1
  subst e1 e2 e3
  have e := hBx.uniq h2
  subst e
  exact hO
theorem room_pre {p dp : Value} {H : Hl} {L : LM} {bs : List Int} (h : LogR H p dp L bs) (hb : bs.length ≤ 1048576) : roomS.pre [p] [] [H] := by
  obtain ⟨sl, h1, h2⟩ := h
  exact ⟨p, H, dp, sl, L, bs.length, rfl, rfl, h1, RdB.slOf h2, hb⟩
theorem room_post {p dp v : Value} {H F : Hl} {K : List Hl} {L : LM} {bs : List Int} (h : LogR H p dp L bs) (hp : roomS.post [p] [] [H] v K F) : v = .int .i64 (L.most - bs.length) := by
  obtain ⟨sl, h1, h2⟩ := h
  obtain ⟨p', R1, dp', sl', L', n', hx, hR, hLx, hs, hv⟩ := hp
  have hx : p = p' := by simpa using hx
  subst hx
  have hR : H = R1 := by simpa using hR
  subst hR
  obtain ⟨e1, e2, e3⟩ := hLx.uniq h1
  subst e1 e2 e3
  have e := hs.uniq (RdB.slOf h2)
  subst e
  exact hv
theorem lnote_pre {p dp : Value} {H : Hl} {L : LM} {bs : List Int} (h : LogR H p dp L bs) : lnoteS.pre [p] [] [H] := by
  obtain ⟨sl, h1, h2⟩ := h
  exact ⟨p, H, dp, sl, L, rfl, rfl, h1⟩
theorem lnote_post {p dp v : Value} {H F : Hl} {K : List Hl} {L : LM} {bs : List Int} (h : LogR H p dp L bs) (hp : lnoteS.post [p] [] [H] v K F) : v = .agg (bys L.note).toArray := by
  obtain ⟨sl, h1, h2⟩ := h
  obtain ⟨p', R1, dp', sl', L', hx, hR, hLx, hv⟩ := hp
  have hx : p = p' := by simpa using hx
  subst hx
  have hR : H = R1 := by simpa using hR
  subst hR
  obtain ⟨e1, e2, e3⟩ := hLx.uniq h1
  subst e1 e2 e3
  exact hv
/-- What is opened holds no more than has room there. -/
theorem openB_length {D : DM} (hD : D.ok) {frm n : Int} (hn : 3 ≤ n ∧ n ≤ 16384) : ((openB D frm n).length : Int) ≤ 64 * (n - 2) := by
  have hm : 0 ≤ 64 * (n - 2) := by omega
  have h0 := (lread_head hD frm hm 0).2
  have h1 := (lread_head hD frm hm 1).2
  have hs : (openL D frm n).size ≤ 64 * (n - 2) := by
    show (openH D frm n).getD 1 0 ≤ _
    unfold openH
    split
    · exact h1
    · exact h0
  unfold openB bytesAt
  rw [List.length_take]
  omega
theorem openB_bytes {D : DM} {frm n : Int} (h : ∀ z ∈ D.now, 0 ≤ z ∧ z < 256) : ∀ z ∈ openB D frm n, 0 ≤ z ∧ z < 256 := fun z hz => h z (List.mem_of_mem_drop (List.mem_of_mem_take hz))
end Go.Proofs.YtomdimlnggpgbaaDoor.D
namespace Go.Proofs.YtomdimlnggpgbaaDoor
open Go Go.Sx Go.Pk
open Go.Proofs.YtomdimlnggpgbaaDoor.D hiding envI noLoops numS

theorem gen_pre {p dp : Value} {H : Hl} {L : LM} {bs : List Int} (h : LogR H p dp L bs) : genS.pre [p] [] [H] := by
  obtain ⟨sl, h1, h2⟩ := h
  exact ⟨p, H, dp, sl, L, rfl, rfl, h1⟩
theorem gen_post {p dp v : Value} {H F : Hl} {K : List Hl} {L : LM} {bs : List Int} (h : LogR H p dp L bs) (hp : genS.post [p] [] [H] v K F) : v = .int .u64 (genI L) := by
  obtain ⟨sl, h1, h2⟩ := h
  obtain ⟨p', R1, dp', sl', L', hx, hR, hLx, hv⟩ := hp
  have hx : p = p' := by simpa using hx
  subst hx
  have hR : H = R1 := by simpa using hR
  subst hR
  obtain ⟨e1, e2, e3⟩ := hLx.uniq h1
  subst e1 e2 e3
  exact hv
theorem taken_post {u v : Value} {R F : Hl} {K : List Hl} {bs : List Int} (h : RdW R u bs) (hp : takenS.post [u] [] [R] v K F) : RowsR F v (takenL bs) := by
  obtain ⟨u', bs', R', e1, e2, hR', hO⟩ := hp
  simp only [List.cons.injEq, and_true] at e1 e2
  subst e1 e2
  rw [h.uniq hR']; exact hO
/-- A store's numbers. -/
structure SM where
  LA : LM
  bA : List Int
  LB : LM
  bB : List Int
  recs : List (List Int)
  over : Bool
def sHl (a : Nat) (pa pb sl : Value) (o : Bool) : Hl := Hl.one a (.cells #[pa, pb, sl, .bool o] 70 (0, 0))
/-- What a pointer to a store reaches. -/
structure StoreIn (H : Hl) (a : Nat) (dp pa pb sl : Value) (HA HB HR : Hl) (S : SM) : Prop where
  la : LogAt HA pa dp S.LA S.bA
  lb : LogAt HB pb dp S.LB S.bB
  rows : RowsR HR sl S.recs
  d1 : (sHl a pa pb sl S.over).dis HA
  d2 : (sHl a pa pb sl S.over).dis HB
  d3 : (sHl a pa pb sl S.over).dis HR
  d4 : HA.dis HB
  d5 : HA.dis HR
  d6 : HB.dis HR
  hl : H = hls [sHl a pa pb sl S.over, HA, HB, HR]
def StoreAt (H : Hl) (p dp : Value) (S : SM) : Prop := ∃ (a : Nat) (pa pb sl : Value) (HA HB HR : Hl), p = .pointer (some ⟨a, 0, none⟩) ∧ StoreIn H a dp pa pb sl HA HB HR S
/-- A store that is read. -/
structure StoreRd (H : Hl) (a : Nat) (dp pa pb sl : Value) (S : SM) : Prop where
  blk : H a = some (.cells #[pa, pb, sl, .bool S.over] 70 (0, 0))
  la : LogR H pa dp S.LA S.bA
  lb : LogR H pb dp S.LB S.bB
  rows : RowsR H sl S.recs
def StoreR (H : Hl) (p dp : Value) (S : SM) : Prop := ∃ (a : Nat) (pa pb sl : Value), p = .pointer (some ⟨a, 0, none⟩) ∧ StoreRd H a dp pa pb sl S
theorem StoreAt.rd {H : Hl} {p dp : Value} {S : SM} (h : StoreAt H p dp S) : StoreR H p dp S := by
  obtain ⟨a, pa, pb, sl, HA, HB, HR, hp, h⟩ := h
  obtain ⟨l1, l2, l3, l4⟩ := hls4_le h.d1 h.d2 h.d3 h.d4 h.d5 h.d6
  rw [← h.hl] at l1 l2 l3 l4
  exact ⟨a, pa, pb, sl, hp, l1 _ _ (Hl.one_self _ _), h.la.rd.mono l2, h.lb.rd.mono l3, h.rows.mono l4⟩
theorem StoreR.mono {R R' : Hl} (hl : R.le R') {p dp : Value} {S : SM} (h : StoreR R p dp S) : StoreR R' p dp S := by
  obtain ⟨a, pa, pb, sl, hp, h⟩ := h
  exact ⟨a, pa, pb, sl, hp, hl _ _ h.blk, h.la.mono hl, h.lb.mono hl, h.rows.mono hl⟩
theorem StoreR.uniq {H : Hl} {p dp dp' : Value} {S S' : SM} (h : StoreR H p dp S) (h' : StoreR H p dp' S') : dp = dp' ∧ S = S' := by
  obtain ⟨a, pa, pb, sl, rfl, h⟩ := h
  obtain ⟨a', pa', pb', sl', hp, h'⟩ := h'
  have e : a = a' := by simpa using hp
  subst e
  have hb := h.blk.symm.trans h'.blk
  simp only [Option.some.injEq, Obj.cells.injEq, Array.mk.injEq, List.cons.injEq, Value.bool.injEq, and_true] at hb
  obtain ⟨rfl, rfl, rfl, e4⟩ := hb
  obtain ⟨e1, e2, e3⟩ := h.la.uniq h'.la
  obtain ⟨_, e5, e6⟩ := h.lb.uniq h'.lb
  have e7 := h.rows.uniq h'.rows
  refine ⟨e1, ?_⟩
  obtain ⟨x1, x2, x3, x4, x5, x6⟩ := S
  obtain ⟨y1, y2, y3, y4, y5, y6⟩ := S'
  simp only at e2 e3 e4 e5 e6 e7
  subst e2 e3 e4 e5 e6 e7
  rfl
/-! ### Open -/
def sOpenE (D : DM) : Int := if D.n / 2 < 3 then 1 else if D.gone then 5 else 0
def lowL (D : DM) : LM := openL D 0 ((D.n / 2 : Nat) : Int)
def lowB (D : DM) : List Int := openB D 0 ((D.n / 2 : Nat) : Int)
def highL (D : DM) : LM := openL D ((D.n / 2 : Nat) : Int) ((D.n / 2 : Nat) : Int)
def highB (D : DM) : List Int := openB D ((D.n / 2 : Nat) : Int) ((D.n / 2 : Nat) : Int)
def mkS (A : LM) (bA : List Int) (B : LM) (bB : List Int) : SM := ⟨A, bA, B, bB, takenL bA, false⟩
def sOpen (D : DM) : SM := if genI (lowL D) < genI (highL D) then mkS (highL D) (highB D) (lowL D) (lowB D) else mkS (lowL D) (lowB D) (highL D) (highB D)
def sopenS : Sx.Spec where
  fn := 10
  own := [.arg 0]
  rd := []
  res := [.one .ptr, .one (.int .i64)]
  links := [0]
  pre := fun xs Hs Rs => ∃ dp H D, xs = [dp] ∧ Hs = [H] ∧ DiskAt H dp D ∧ bytes256 (lowB D) ∧ bytes256 (highB D)
  post := fun xs Hs Rs v Hs' F => ∃ dp H D H' pv, xs = [dp] ∧ Hs = [H] ∧ DiskAt H dp D ∧ Hs' = [H'] ∧ DiskAt H' dp D ∧ v = .tuple #[pv, .int .i64 (sOpenE D)] ∧ (sOpenE D = 0 → StoreAt F pv dp (sOpen D)) ∧ (sOpenE D ≠ 0 → pv = .pointer none)
def soΓ : List Sx.Spec := [sectorsS, openS, genS, bytesS, takenS]
theorem soΓ_ok : ∀ t ∈ soΓ, t.OK Tryd.prog := fun t ht => by
  simp only [soΓ, List.mem_cons, List.mem_nil_iff, or_false] at ht
  rcases ht with rfl | rfl | rfl | rfl | rfl
  · exact sectorsS_ok
  · exact openS_ok
  · exact genS_ok
  · exact bytesS_ok
  · exact takenS_ok
def sopenNd : Nd := .and (.pre (.call 0 2 [.sv (.one (.hptr (.var 0) (.lit 0)))] [.hp 1 [] [.var 0] []] [])) (.ext (.call 0 2 [.sv (.one (.hptr (.var 0) (.lit 0)))] [.hp 1 [] [.var 0] []] []) (.and (.imp (.lt (.wrap .i64 (.quo (.var 2) (.lit 2))) (.lit 3)) (.post [.hp 2 [1] [.var 0] []] (.tup [.one (.hptr (.lit (-1)) (.lit 0)), .one (.int .i64 (.lit 1))]))) (.imp (.not (.lt (.wrap .i64 (.quo (.var 2) (.lit 2))) (.lit 3))) (.and (.pre (.call 1 4 [.sv (.one (.hptr (.var 0) (.lit 0))), .sv (.one (.int .i64 (.lit 0))), .sv (.one (.int .i64 (.wrap .i64 (.quo (.var 2) (.lit 2)))))] [.hp 2 [1] [.var 0] []] [])) (.ext (.call 1 4 [.sv (.one (.hptr (.var 0) (.lit 0))), .sv (.one (.int .i64 (.lit 0))), .sv (.one (.int .i64 (.wrap .i64 (.quo (.var 2) (.lit 2)))))] [.hp 2 [1] [.var 0] []] []) (.and (.imp (.not (.eq (.var 6) (.lit 0))) (.post [.hp 4 [2, 1] [.var 0] [], .hp 5 [] [.var 4] [.var 0]] (.tup [.one (.hptr (.lit (-1)) (.lit 0)), .one (.int .i64 (.var 6))]))) (.imp (.eq (.var 6) (.lit 0)) (.and (.pre (.call 1 7 [.sv (.one (.hptr (.var 0) (.lit 0))), .sv (.one (.int .i64 (.wrap .i64 (.quo (.var 2) (.lit 2))))), .sv (.one (.int .i64 (.wrap .i64 (.quo (.var 2) (.lit 2)))))] [.hp 4 [2, 1] [.var 0] []] [])) (.ext (.call 1 7 [.sv (.one (.hptr (.var 0) (.lit 0))), .sv (.one (.int .i64 (.wrap .i64 (.quo (.var 2) (.lit 2))))), .sv (.one (.int .i64 (.wrap .i64 (.quo (.var 2) (.lit 2)))))] [.hp 4 [2, 1] [.var 0] []] []) (.and (.imp (.not (.eq (.var 9) (.lit 0))) (.post [.hp 7 [4, 2, 1] [.var 0] [], .hp 5 [] [.var 4] [.var 0], .hp 8 [] [.var 7] [.var 0]] (.tup [.one (.hptr (.lit (-1)) (.lit 0)), .one (.int .i64 (.var 9))]))) (.imp (.eq (.var 9) (.lit 0)) (.and (.pre (.call 2 10 [.sv (.one (.hptr (.var 7) (.var 8)))] [] [.hp 8 [] [.var 7] [.var 0]])) (.ext (.call 2 10 [.sv (.one (.hptr (.var 7) (.var 8)))] [] [.hp 8 [] [.var 7] [.var 0]]) (.and (.pre (.call 2 11 [.sv (.one (.hptr (.var 4) (.var 5)))] [] [.hp 5 [] [.var 4] [.var 0]])) (.ext (.call 2 11 [.sv (.one (.hptr (.var 4) (.var 5)))] [] [.hp 5 [] [.var 4] [.var 0]]) (.and (.imp (.lt (.var 11) (.var 10)) (.and (.pre (.call 3 12 [.sv (.one (.hptr (.var 7) (.var 8)))] [] [.hp 8 [] [.var 7] [.var 0], .hp 8 [] [.var 7] [.var 0]])) (.ext (.call 3 12 [.sv (.one (.hptr (.var 7) (.var 8)))] [] [.hp 8 [] [.var 7] [.var 0], .hp 8 [] [.var 7] [.var 0]]) (.and (.pre (.call 4 16 [.sv (.one (.sl (.var 12) (.var 13) (.var 14) (.var 15)))] [] [.hp 12 [] [.var 12] []])) (.ext (.call 4 16 [.sv (.one (.sl (.var 12) (.var 13) (.var 14) (.var 15)))] [] [.hp 12 [] [.var 12] []]) (.ext (.alloc 20) (.post [.hp 7 [4, 2, 1] [.var 0] [], .hp 5 [] [.var 4] [.var 0], .hp 8 [] [.var 7] [.var 0], .hp 12 [] [.var 12] [], .hp 16 [] [.var 16] [], .blk 20 [.hptr (.var 7) (.var 8), .hptr (.var 4) (.var 5), .sl (.var 16) (.var 17) (.var 18) (.var 19), .bool .ff] 70] (.tup [.one (.hptr (.var 20) (.lit 0)), .one (.int .i64 (.lit 0))])))))))) (.imp (.not (.lt (.var 11) (.var 10))) (.and (.pre (.call 3 12 [.sv (.one (.hptr (.var 4) (.var 5)))] [] [.hp 5 [] [.var 4] [.var 0], .hp 5 [] [.var 4] [.var 0]])) (.ext (.call 3 12 [.sv (.one (.hptr (.var 4) (.var 5)))] [] [.hp 5 [] [.var 4] [.var 0], .hp 5 [] [.var 4] [.var 0]]) (.and (.pre (.call 4 16 [.sv (.one (.sl (.var 12) (.var 13) (.var 14) (.var 15)))] [] [.hp 12 [] [.var 12] []])) (.ext (.call 4 16 [.sv (.one (.sl (.var 12) (.var 13) (.var 14) (.var 15)))] [] [.hp 12 [] [.var 12] []]) (.ext (.alloc 20) (.post [.hp 7 [4, 2, 1] [.var 0] [], .hp 5 [] [.var 4] [.var 0], .hp 8 [] [.var 7] [.var 0], .hp 12 [] [.var 12] [], .hp 16 [] [.var 16] [], .blk 20 [.hptr (.var 4) (.var 5), .hptr (.var 7) (.var 8), .sl (.var 16) (.var 17) (.var 18) (.var 19), .bool .ff] 70] (.tup [.one (.hptr (.var 20) (.lit 0)), .one (.int .i64 (.lit 0))]))))))))))))))))))))))))
def sopenW : Walk Tryd.prog soΓ sopenS.fn where
  Λ := noLoops
  args := [TP (.var 0) (.lit 0)]
  mem := [.hp 1 [] [.var 0] []]
  nv := 2
  nd := sopenNd
  ok := by kernel_rfl
theorem sog0 : soΓ[0]? = some sectorsS := rfl
theorem sog1 : soΓ[1]? = some openS := rfl
theorem sog2 : soΓ[2]? = some genS := rfl
theorem sog3 : soΓ[3]? = some bytesS := rfl
theorem sog4 : soΓ[4]? = some takenS := rfl
theorem sor0 : sectorsS.res = [.one (.int .i64)] := rfl
theorem sor1 : openS.res = [.one .ptr, .one (.int .i64)] := rfl
theorem sor2 : genS.res = [.one (.int .u64)] := rfl
theorem sor3 : bytesS.res = [.one .sl] := rfl
theorem sor4 : takenS.res = [.one .sl] := rfl
theorem rpi (n : Nat) : (cpRoots n [Cp.one .ptr, Cp.one (.int .i64)] ≠ []) = True := by simp [cpRoots, Cp.roots, Ck.root]
theorem half_wrap {n : Nat} (h : n ≤ 16384) : IntKind.i64.wrap ((n : Int).tdiv 2) = ((n / 2 : Nat) : Int) := by
  have e : (n : Int).tdiv 2 = ((n / 2 : Nat) : Int) := rfl
  rw [e]
  exact wrap_i64 (by omega) (by omega)
set_option maxRecDepth 4000 in
theorem sopenS_ok : sopenS.OK Tryd.prog := by
  refine Spec.of_fn (Γ := soΓ) soΓ_ok ?_
  rintro xs Hs Rs hl1 hl2 ⟨dp, H, D, rfl, rfl, hD, hlo, hhi⟩
  have e1 : Rs = [] := List.length_eq_zero_iff.1 hl2
  subst e1
  obtain ⟨da, s, m, es, clock, hdp, hDi⟩ := id hD
  have hDn := hDi.ok.n
  have hok := hDi.ok
  refine ⟨sopenW, envI [(da : Int)] false [Hl.none, H], fun _ _ => True, fun _ _ => 0, ?_, ⟨?_, ?_, ?_, ?_⟩, (fun _ h => nomatch h), ?_⟩
  · show [Value.pointer (slP (da : Int) 0)] = _; rw [ptr0, hdp]
  · intro r hr ho; simp [sopenW] at hr; subst hr; exact ⟨H, by simp, Hl.le_refl _⟩
  · intro r hr ho; simp [sopenW] at hr; subst hr; cases ho
  · simp [sopenW]
  · intro r hr; simp [sopenW] at hr; subst hr; trivial
  · show Nd.holds _ _ _ sopenNd
    generalize hρ : envI [(da : Int)] false [Hl.none, H] = ρ
    have v0 : ρ.i 0 = da := by rw [← hρ]; rfl
    have w1 : ρ.h 1 = H := by rw [← hρ]; rfl
    clear hρ
    have ep : Value.pointer (slP (da : Int) 0) = dp := by rw [ptr0, hdp]
    have bad : ∀ (q : Env) (k : Nat) (vs : List Nat) (t : Mem) (x : E) (e : Int), DiskAt (q.h k) dp D → iev q x = e → sOpenE D = e → e ≠ 0 →
        postOf sopenS [dp] [H] [] q (.hp k vs [.var 0] [] :: t) (.tup [.one (.hptr (.lit (-1)) (.lit 0)), .one (.int .i64 x)]) := by
      intro q k vs t x e hq hx he hne _
      refine ⟨[[0]], [], rfl, rfl, ⟨⟨fun j => [-1, 0, e].getD j 0, fun _ => false, fun _ => .empty, fun _ => .tuple #[], fun _ => Hl.none⟩, ?_, ⟨by show (-1 : Int) ≤ -1; omega, Int.le_refl _⟩, trivial, trivial⟩, dp, H, D, _, .pointer none, rfl, rfl, hD, rfl, ?_, ?_, fun h => absurd (he.symm.trans h) hne, fun _ => rfl⟩
      · subst hx; rfl
      · show DiskAt (hls [q.h k]) _ _
        rw [hls_one]; exact hq
      · rw [he, ← hx]; rfl
    unfold sopenNd
    simp only [Nd.holds, X.pre, X.rel, X.n, Src.ok, Src.len, Src.vals, true_and, and_true, if_true, Nat.mul_one, Nat.add_zero, Nat.reduceAdd, List.length_cons, List.length_nil, bT_tt, bT_ff, bT_bvar, bT_not, bT_and, bT_or, bT_ite, bT_lt, bT_le, bT_eq, bT_beq, bT_seq, bT_hB, bT_his, bT_hby, bT_hism, bT_hks, iev_lit, iev_var, iev_add, iev_sub, iev_mul, iev_wrap, iev_ite, iev_hI, iev_hP, iev_hmlen, sev_ite, sev_slit, sev_sof, sev_svar, TV.ev, SV.ev, CV.ev, List.map_cons, List.map_nil, Res.hl, cpTV, Cp.sv, Ck.cv, cpSVs, Cp.len, Ck.len, newHs_zero, newHs_one, roots_ne, sog0, sog1, sog2, sog3, sog4, sor0, sor1, sor2, sor3, sor4, rsl, rptr, rpi, iev_quo]
    rw [v0, w1, ep]
    refine ⟨⟨dp, H, D, rfl, rfl, hD⟩, fun q1 g1 ⟨F1, hp1, _⟩ => ?_⟩
    obtain ⟨hD1, hv1⟩ := sectors_post hD hp1
    have hv1 : q1.i 2 = D.n := by simpa using hv1
    rw [hv1, half_wrap hDn, g1.i 0 (by omega), v0, ep]
    refine ⟨fun hlt => bad q1 2 _ _ _ 1 hD1 (iev_lit _ _) (by unfold sOpenE; rw [if_pos (by omega)]) (by decide), fun hge => ?_⟩
    have hn3 : 3 ≤ D.n / 2 := by omega
    have hE : sOpenE D = if D.gone then 5 else 0 := by unfold sOpenE; rw [if_neg (by omega)]
    have hEA : openE D 0 ((D.n / 2 : Nat) : Int) = if D.gone then 5 else 0 := by unfold openE; rw [if_neg (by omega)]
    have hEB : openE D ((D.n / 2 : Nat) : Int) ((D.n / 2 : Nat) : Int) = if D.gone then 5 else 0 := by unfold openE; rw [if_neg (by omega)]
    have hnn : 3 ≤ ((D.n / 2 : Nat) : Int) ∧ ((D.n / 2 : Nat) : Int) ≤ 16384 := by omega
    refine ⟨⟨dp, _, _, _, D, rfl, rfl, hD1⟩, fun q2 g2 ⟨F2, hp2, hF2, hn2⟩ => ?_⟩
    obtain ⟨pA, hD2, hv2, hA, _⟩ := open_post hD1 hp2
    simp only [Value.tuple.injEq, Array.mk.injEq, List.cons.injEq, Value.int.injEq, true_and, and_true] at hv2
    obtain ⟨eA, e6⟩ := hv2
    have G2 : Agree 2 ρ q2 := g1.trans (g2.mono (by omega))
    have hq2 : q2.i 2 = D.n := by rw [g2.i 2 (by omega), hv1]
    rw [hq2, half_wrap hDn, G2.i 0 (by omega), v0, ep]
    refine ⟨fun hne => bad q2 4 _ _ _ 5 hD2 (by rw [iev_var, e6, hEA, if_pos]; exact Classical.byContradiction fun hg => hne (by rw [e6, hEA, if_neg hg])) (by rw [hE, if_pos]; exact Classical.byContradiction fun hg => hne (by rw [e6, hEA, if_neg hg])) (by decide), fun heq => ?_⟩
    have hgone : D.gone = false := by
      cases hg : D.gone with
      | false => rfl
      | true => rw [e6, hEA, hg] at heq; cases heq
    have hA : LogAt F2 pA dp (lowL D) (lowB D) := hA (by rw [hEA, hgone]; rfl)
    rw [← eA, ← hF2 trivial] at hA
    refine ⟨⟨dp, _, _, _, D, rfl, rfl, hD2⟩, fun q3 g3 ⟨F3, hp3, hF3, hn3'⟩ => ?_⟩
    obtain ⟨pB, hD3, hv3, hB, _⟩ := open_post hD2 hp3
    simp only [Value.tuple.injEq, Array.mk.injEq, List.cons.injEq, Value.int.injEq, true_and, and_true] at hv3
    obtain ⟨eB, e9⟩ := hv3
    have e9 : q3.i 9 = 0 := by rw [e9, hEB, hgone]; rfl
    have hB : LogAt F3 pB dp (highL D) (highB D) := hB (by rw [hEB, hgone]; rfl)
    rw [← eB, ← hF3 trivial] at hB
    refine ⟨fun h => absurd e9 h, fun _ => ⟨gen_pre hB.rd, fun q4 g4 ⟨F4, hp4, _⟩ => ?_⟩⟩
    have hv4 : q4.i 10 = genI (highL D) := by simpa using gen_post hB.rd hp4
    have G4 : Agree 7 q2 q4 := g3.trans (g4.mono (by omega))
    have hA4 : LogAt (q4.h 5) (.pointer (slP (q4.i 4) (q4.i 5))) dp (lowL D) (lowB D) := by
      rw [G4.h 5 (by omega), G4.i 4 (by omega), G4.i 5 (by omega)]; exact hA
    refine ⟨gen_pre hA4.rd, fun q5 g5 ⟨F5, hp5, _⟩ => ?_⟩
    have hv5 : q5.i 11 = genI (lowL D) := by simpa using gen_post hA4.rd hp5
    have hv5' : q5.i 10 = genI (highL D) := by rw [g5.i 10 (by omega), hv4]
    have hA5 : LogAt (q5.h 5) (.pointer (slP (q5.i 4) (q5.i 5))) dp (lowL D) (lowB D) := by
      rw [g5.h 5 (by omega), g5.i 4 (by omega), g5.i 5 (by omega)]; exact hA4
    have G35 : Agree 10 q3 q5 := g4.trans (g5.mono (by omega))
    have hB5 : LogAt (q5.h 8) (.pointer (slP (q5.i 7) (q5.i 8))) dp (highL D) (highB D) := by
      rw [G35.h 8 (by omega), G35.i 7 (by omega), G35.i 8 (by omega)]; exact hB
    have hD5 : DiskAt (q5.h 7) dp D := by rw [G35.h 7 (by omega)]; exact hD3
    have hLA : ((lowB D).length : Int) ≤ _ := openB_length hok (frm := 0) hnn
    have hLB : ((highB D).length : Int) ≤ _ := openB_length hok (frm := ((D.n / 2 : Nat) : Int)) hnn
    rw [hv5, hv5']
    have hsE : sOpenE D = 0 := by rw [hE, hgone]; rfl
    refine ⟨fun hlt => ⟨bytes_pre hB5.rd (by omega), fun q6 g6 ⟨F6, hp6, hF6, hn6⟩ => ?_⟩, fun hge => ⟨bytes_pre hA5.rd (by omega), fun q6 g6 ⟨F6, hp6, hF6, hn6⟩ => ?_⟩⟩
    · have hO := bytes_post hB5.rd hp6
      rw [← hF6 trivial] at hO
      have hRd := hO.rd.w
      refine ⟨⟨_, _, _, rfl, rfl, hRd, hhi, by omega⟩, fun q7 g7 ⟨F7, hp7, hF7, hn7⟩ q8 g8 p8 hd => ?_⟩
      have hW := taken_post hRd hp7
      rw [← hF7 trivial] at hW
      have G7 : Agree 12 q5 q8 := g6.trans ((g7.trans (g8.mono (by omega))).mono (by omega))
      have hn7 : -1 ≤ q7.i 16 ∧ 0 ≤ q7.i 17 ∧ 0 ≤ q7.i 18 ∧ 0 ≤ q7.i 19 := hn7.1
      refine ⟨[[0]], [5, 2, 1, 4], rfl, rfl, ⟨⟨fun j => [q8.i 20, 0, 0].getD j 0, fun _ => false, fun _ => .empty, fun _ => .tuple #[], fun _ => Hl.none⟩, rfl, ⟨by show -1 ≤ q8.i 20; omega, Int.le_refl _⟩, trivial, trivial⟩, dp, H, D, _, Value.pointer (slP (q8.i 20) 0), rfl, rfl, hD, rfl, ?_, ?_, fun _ => ?_, fun h => absurd hsE h⟩
      · show DiskAt (hls [q8.h 7]) _ _
        rw [hls_one, G7.h 7 (by omega)]; exact hD5
      · rw [hsE]; rfl
      · unfold sOpen
        rw [if_pos hlt]
        have hW8 : RowsR (q8.h 16) (.slice (slP (q8.i 16) (q8.i 17)) (q8.i 18).toNat (q8.i 19).toNat) (takenL (highB D)) := by
          rw [g8.h 16 (by omega), g8.i 16 (by omega), g8.i 17 (by omega), g8.i 18 (by omega), g8.i 19 (by omega)]; exact hW
        have hA8 : LogAt (q8.h 5) (.pointer (slP (q8.i 4) (q8.i 5))) dp (lowL D) (lowB D) := by
          rw [G7.h 5 (by omega), G7.i 4 (by omega), G7.i 5 (by omega)]; exact hA5
        have hB8 : LogAt (q8.h 8) (.pointer (slP (q8.i 7) (q8.i 8))) dp (highL D) (highB D) := by
          rw [G7.h 8 (by omega), G7.i 7 (by omega), G7.i 8 (by omega)]; exact hB5
        exact ⟨(q8.i 20).toNat, _, _, _, _, _, _, by rw [slP_pos p8]; rfl, ⟨hB8, hA8, hW8, hd 5 2 _ _ (by decide) rfl rfl rfl, hd 5 1 _ _ (by decide) rfl rfl rfl, hd 5 4 _ _ (by decide) rfl rfl rfl, hd 2 1 _ _ (by decide) rfl rfl rfl, hd 2 4 _ _ (by decide) rfl rfl rfl, hd 1 4 _ _ (by decide) rfl rfl rfl, rfl⟩⟩
    · have hO := bytes_post hA5.rd hp6
      rw [← hF6 trivial] at hO
      have hRd := hO.rd.w
      refine ⟨⟨_, _, _, rfl, rfl, hRd, hlo, by omega⟩, fun q7 g7 ⟨F7, hp7, hF7, hn7⟩ q8 g8 p8 hd => ?_⟩
      have hW := taken_post hRd hp7
      rw [← hF7 trivial] at hW
      have G7 : Agree 12 q5 q8 := g6.trans ((g7.trans (g8.mono (by omega))).mono (by omega))
      have hn7 : -1 ≤ q7.i 16 ∧ 0 ≤ q7.i 17 ∧ 0 ≤ q7.i 18 ∧ 0 ≤ q7.i 19 := hn7.1
      refine ⟨[[0]], [5, 1, 2, 4], rfl, rfl, ⟨⟨fun j => [q8.i 20, 0, 0].getD j 0, fun _ => false, fun _ => .empty, fun _ => .tuple #[], fun _ => Hl.none⟩, rfl, ⟨by show -1 ≤ q8.i 20; omega, Int.le_refl _⟩, trivial, trivial⟩, dp, H, D, _, Value.pointer (slP (q8.i 20) 0), rfl, rfl, hD, rfl, ?_, ?_, fun _ => ?_, fun h => absurd hsE h⟩
      · show DiskAt (hls [q8.h 7]) _ _
        rw [hls_one, G7.h 7 (by omega)]; exact hD5
      · rw [hsE]; rfl
      · unfold sOpen
        rw [if_neg hge]
        have hW8 : RowsR (q8.h 16) (.slice (slP (q8.i 16) (q8.i 17)) (q8.i 18).toNat (q8.i 19).toNat) (takenL (lowB D)) := by
          rw [g8.h 16 (by omega), g8.i 16 (by omega), g8.i 17 (by omega), g8.i 18 (by omega), g8.i 19 (by omega)]; exact hW
        have hA8 : LogAt (q8.h 5) (.pointer (slP (q8.i 4) (q8.i 5))) dp (lowL D) (lowB D) := by
          rw [G7.h 5 (by omega), G7.i 4 (by omega), G7.i 5 (by omega)]; exact hA5
        have hB8 : LogAt (q8.h 8) (.pointer (slP (q8.i 7) (q8.i 8))) dp (highL D) (highB D) := by
          rw [G7.h 8 (by omega), G7.i 7 (by omega), G7.i 8 (by omega)]; exact hB5
        exact ⟨(q8.i 20).toNat, _, _, _, _, _, _, by rw [slP_pos p8]; rfl, ⟨hA8, hB8, hW8, hd 5 1 _ _ (by decide) rfl rfl rfl, hd 5 2 _ _ (by decide) rfl rfl rfl, hd 5 4 _ _ (by decide) rfl rfl rfl, hd 1 2 _ _ (by decide) rfl rfl rfl, hd 1 4 _ _ (by decide) rfl rfl rfl, hd 2 4 _ _ (by decide) rfl rfl rfl, rfl⟩⟩
end Go.Proofs.YtomdimlnggpgbaaDoor
