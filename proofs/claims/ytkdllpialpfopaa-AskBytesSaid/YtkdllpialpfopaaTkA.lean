/- Layer 11: tokens are compared, and told to rise: bytes.Compare, keys.compare, keys.Sorted and the reference's, as contracts. Condition: the tokens are bytes. -/
import Derived.Test.YtkdllpialpfopaaPkI
import Derived.Lib.Hide
import Derived.WalkSpells
import Derived.WalkLawsBesides
import Derived.Lib.BytesEntry
set_option linter.unusedSimpArgs false
set_option linter.unusedVariables false
set_option linter.constructorNameAsVariable false
namespace Go.Proofs.Ytkdllpialpfopaa
open Go Go.Sx Go.Pk Go.RowKit

/-- The order of the first two that differ. -/
def lex : List Int → List Int → Int
  | x :: xs, y :: ys => if x < y then -1 else if y < x then 1 else lex xs ys
  | _, _ => 0
def SortedT (T : List (List Int)) : Prop := ∀ i, i + 1 < T.length → lex (T.getD i []) (T.getD (i + 1) []) < 0
/-! ### Compare -/
/-- Where a slice's bytes stand. -/
def BytesAt (w : World) (b o : Nat) (xs : List Int) : Prop := ∀ i x, xs[i]? = some x → w.cell? ⟨b, o + i, none⟩ = some (.int .u8 x)
theorem run_bytesAt {P : Program} {w : World} {b o n c : Nat} {xs : List Int} (h : BytesAt w b o xs) (hn : xs.length = n) : (Extern.Bytes.bytesOf (.slice (some ⟨b, o, none⟩) n c)).run P w = .ok ⟨(Lib.bytesOf xs).toArray⟩ w := by
  have hl := Lib.run_loadBytesX (P := P) w xs ⟨b, o, none⟩ .empty (fun j x hj => by
    have e : (⟨b, o, none⟩ : Addr).add j = ⟨b, o + j, none⟩ := by unfold Addr.add; split <;> simp_all
    rw [e, h j x hj])
  rw [hn] at hl
  simp only [Extern.Bytes.bytesOf, hl]
  congr 1
  apply ByteArray.ext
  show (#[] : Array UInt8) ++ (Lib.bytesOf xs).toArray = (Lib.bytesOf xs).toArray
  simp
def cmpOf (xs ys : List Int) : Int := Lib.compareBytes (Lib.bytesOf xs) (Lib.bytesOf ys)
theorem run_compareAt {P : Program} {w : World} {b o n c b' o' n' c' : Nat} {xs ys : List Int} (h : BytesAt w b o xs) (hn : xs.length = n) (h' : BytesAt w b' o' ys) (hn' : ys.length = n') :
    (Extern.BytealgCompare.compare #[.slice (some ⟨b, o, none⟩) n c, .slice (some ⟨b', o', none⟩) n' c']).run P w = .ok (.int .i64 (cmpOf xs ys)) w := by
  change Sem.run P (do pure (goInt (Extern.BytealgCompare.cmp (← Extern.Bytes.bytesOf (.slice (some ⟨b, o, none⟩) n c)) (← Extern.Bytes.bytesOf (.slice (some ⟨b', o', none⟩) n' c'))))) w = _
  simp only [Sem.run_bind, run_bytesAt h hn, run_bytesAt h' hn', Result.andThen_ok, Sem.run_pure, Lib.cmp_eq]
  rfl
theorem bytesCompare {w : World} {b o n c b' o' n' c' : Nat} {xs ys : List Int} (h : BytesAt w b o xs) (hn : xs.length = n) (h' : BytesAt w b' o' ys) (hn' : ys.length = n') :
    Calls Try.prog 71 #[.slice (some ⟨b, o, none⟩) n c, .slice (some ⟨b', o', none⟩) n' c'] w fun e w' => e = .returned (.int .i64 (cmpOf xs ys)) ∧ Below w.heap.size w w' := by
  go_enter Try.func71, Try.ntmps71
  go_wp2
  rw [run_callFunc_extern Try.func72 (by kernel_rfl) (by kernel_rfl) (by kernel_rfl) (e := Extern.BytealgCompare.compare) (by kernel_rfl), run_compareAt h hn h' hn']
  simp only [Result.andThen]
  rw [Oper.upon_value]
  go_wp2
  go_ret
  exact ⟨rfl, Below.refl _ _⟩
theorem u8_lt {x y : Int} (hx : 0 ≤ x ∧ x < 256) (hy : 0 ≤ y ∧ y < 256) : (UInt8.ofNat x.toNat < UInt8.ofNat y.toNat) = (x < y) := by
  rw [UInt8.lt_iff_toNat_lt, UInt8.toNat_ofNat_of_lt' (by simp; omega), UInt8.toNat_ofNat_of_lt' (by simp; omega)]
  exact propext (by omega)
theorem cmp_lex : ∀ (xs ys : List Int), xs.length = ys.length → bytes256 xs → bytes256 ys → cmpOf xs ys = lex xs ys
  | [], [], _, _, _ => rfl
  | x :: xs, y :: ys, h, hx, hy => by
    have ih := cmp_lex xs ys (by simpa using h) (fun z hz => hx z (by simp [hz])) (fun z hz => hy z (by simp [hz]))
    unfold cmpOf Lib.bytesOf at ih ⊢
    simp only [List.map_cons, Lib.compareBytes, lex, u8_lt (hx x (by simp)) (hy y (by simp)), u8_lt (hy y (by simp)) (hx x (by simp)), ih]
  | [], _ :: _, h, _, _ => by simp at h
  | _ :: _, [], h, _, _ => by simp at h
def cmpS : Sx.Spec where
  fn := 71
  own := []
  rd := [0, 1]
  res := [.one (.int .i64)]
  pre := fun xs Hs Rs => ∃ u v a b R1 R2, xs = [u, v] ∧ Rs = [R1, R2] ∧ RdB R1 u a ∧ RdB R2 v b ∧ a ≠ [] ∧ a.length = b.length ∧ bytes256 a ∧ bytes256 b
  post := fun xs Hs Rs w Hs' F => ∃ u v a b R1 R2, xs = [u, v] ∧ Rs = [R1, R2] ∧ RdB R1 u a ∧ RdB R2 v b ∧ w = .int .i64 (lex a b)
theorem at_of {R : Hl} {w : World} (hs : R.sub w) {x y : Int} {bs : List Int} (h : ∀ j z, bs[j]? = some z → R.cell x.toNat (y.toNat + j) = some (.int .u8 z)) : BytesAt w x.toNat y.toNat bs := fun j z hz => Hl.sub_cell hs (h j z hz)
theorem cmpS_ok : cmpS.OK Try.prog := by
  refine calls_spec rfl fun w xs Rs hs ⟨u, v, a, b, R1, R2, e1, e2, h1, h2, hne, hl, hb1, hb2⟩ => ?_
  subst e1 e2
  obtain ⟨x, y, c, rfl, hy, h1'⟩ := id h1
  obtain ⟨x', y', c', rfl, hy', h2'⟩ := id h2
  rcases h1' with ⟨_, h⟩ | ⟨hx, h1'⟩
  · exact absurd h hne
  rcases h2' with ⟨_, h⟩ | ⟨hx', h2'⟩
  · rw [h] at hl
    exact absurd (List.length_eq_zero_iff.1 hl) hne
  refine ⟨.int .i64 (lex a b), ⟨⟨fun _ => lex a b, fun _ => false, fun _ => .empty, fun _ => .tuple #[], fun _ => Hl.none⟩, rfl, trivial, trivial⟩, ?_, _, _, a, b, R1, R2, rfl, rfl, h1, h2, rfl⟩
  rw [slP_pos hx, slP_pos hx', ← cmp_lex a b hl hb1 hb2]
  exact bytesCompare (at_of (hs R1 (by simp)) h1') rfl (at_of (hs R2 (by simp)) h2') rfl
/-! ### Two tokens -/
def tk : List Ck := List.replicate 16 (.int .u8)
def tkd : List Kd := List.replicate 16 (.int .u8)
def tokL (v : Value) : List Int := match v with
  | .agg a => a.toList.map fun v => valI (some v)
  | _ => []
def tokN (xs : List Value) : Prop := ∀ v ∈ xs, bytes256 (tokL v)
def compG (xs : List Value) : Value := match xs with
  | [a, b] => .int .i64 (lex (tokL a) (tokL b))
  | _ => .int .i64 0
def lessG (xs : List Value) : Value := match xs with
  | [a, b] => .bool (decide (lex (tokL a) (tokL b) < 0))
  | _ => .bool false
def compS : Sx.Spec := pureS 61 [.agg tk, .agg tk] [.one (.int .i64)] tokN compG
def lessS : Sx.Spec := pureS 43 [.agg tk, .agg tk] [.one .bool] (fun _ => True) lessG
def compNd : Nd := .ext (.alloc 32) (.ext (.alloc 33) (.and (.pre (.call 0 34 [.sv (.one (.sl (.var 32) (.lit 0) (.lit 16) (.lit 16))), .sv (.one (.sl (.var 33) (.lit 0) (.lit 16) (.lit 16)))] [] [.blk 32 (ckCVs 0 (List.replicate 16 (Ck.int .u8))) 26, .blk 33 (ckCVs 16 (List.replicate 16 (Ck.int .u8))) 26])) (.ext (.call 0 34 [.sv (.one (.sl (.var 32) (.lit 0) (.lit 16) (.lit 16))), .sv (.one (.sl (.var 33) (.lit 0) (.lit 16) (.lit 16)))] [] [.blk 32 (ckCVs 0 (List.replicate 16 (Ck.int .u8))) 26, .blk 33 (ckCVs 16 (List.replicate 16 (Ck.int .u8))) 26]) (.post [.dead, .dead] (.sv (.one (.int .i64 (.var 34))))))))
def compW : Walk Try.prog [cmpS] 61 where
  Λ := noLoops
  args := (cpSVs 0 [.agg tk, .agg tk]).map .sv
  mem := []
  nv := 32
  nd := compNd
  ok := by kernel_rfl
def tnum (q : Env) (n : Nat) : List Int := (List.range 16).map fun j => q.i (n + j)
theorem tok_in (q : Env) : inVs [.agg tk, .agg tk] q = [.agg ((tnum q 0).map (Value.int .u8)).toArray, .agg ((tnum q 16).map (Value.int .u8)).toArray] := rfl
theorem tokL_num (l : List Int) : tokL (.agg (l.map (Value.int .u8)).toArray) = l := by
  show ((l.map (Value.int .u8)).toArray.toList).map _ = l
  rw [List.map_map]
  exact List.map_id'' (fun _ => rfl) l
theorem shape_int (z : Int) : shapeOK [.one (.int .i64)] (.int .i64 z) := ⟨⟨fun _ => z, fun _ => false, fun _ => .empty, fun _ => .tuple #[], fun _ => Hl.none⟩, rfl, trivial, trivial⟩
theorem shape_bool (b : Bool) : shapeOK [.one .bool] (.bool b) := ⟨⟨fun _ => 0, fun _ => b, fun _ => .empty, fun _ => .tuple #[], fun _ => Hl.none⟩, rfl, trivial, trivial⟩
/-- A block of bytes, read. -/
theorem rdB_blk {q : Env} {l : List Int} {T : TypeId} {a o n : Nat} (h0 : 0 ≤ q.i a) {cs : List CV} (hc : ∀ j z, l[j]? = some z → (cs.map (CV.ev q))[o + j]? = some (.int .u8 z)) (hn : n = l.length) {c : Int} : RdB ((Res.blk a cs T).hl q) (.slice (slP (q.i a) (o : Int)) ((n : Int)).toNat c.toNat) l := by
  subst hn
  refine ⟨q.i a, o, c.toNat, by rw [Int.toNat_natCast], by omega, Or.inr ⟨h0, fun j z hz => ?_⟩⟩
  show (Hl.one (q.i a).toNat (.cells (cs.map (CV.ev q)).toArray T (0, 0))).cell (q.i a).toNat _ = _
  unfold Hl.cell
  rw [Hl.one_self, Int.toNat_natCast]
  show (cs.map (CV.ev q)).toArray[o + j]? = _
  rw [List.getElem?_toArray]
  exact hc j z hz
theorem kg0 : [cmpS][0]? = some cmpS := rfl
theorem kr0 : cmpS.res = [.one (.int .i64)] := rfl
theorem kc0 : (cpRoots 34 [Cp.one (.int .i64)] ≠ []) = False := by simp [cpRoots, Cp.roots, Ck.root]
theorem tok_cells {q q2 : Env} (g : Agree 32 q q2) {n : Nat} (hn : n + 16 ≤ 32) : (ckCVs n tk).map (CV.ev q2) = (tnum q n).map (Value.int .u8) := by
  show [Value.int .u8 (q2.i n), .int .u8 (q2.i (n + 1)), .int .u8 (q2.i (n + 2)), .int .u8 (q2.i (n + 3)), .int .u8 (q2.i (n + 4)), .int .u8 (q2.i (n + 5)), .int .u8 (q2.i (n + 6)), .int .u8 (q2.i (n + 7)), .int .u8 (q2.i (n + 8)), .int .u8 (q2.i (n + 9)), .int .u8 (q2.i (n + 10)), .int .u8 (q2.i (n + 11)), .int .u8 (q2.i (n + 12)), .int .u8 (q2.i (n + 13)), .int .u8 (q2.i (n + 14)), .int .u8 (q2.i (n + 15))] = _
  rw [g.i n (by omega), g.i (n + 1) (by omega), g.i (n + 2) (by omega), g.i (n + 3) (by omega), g.i (n + 4) (by omega), g.i (n + 5) (by omega), g.i (n + 6) (by omega), g.i (n + 7) (by omega), g.i (n + 8) (by omega), g.i (n + 9) (by omega), g.i (n + 10) (by omega), g.i (n + 11) (by omega), g.i (n + 12) (by omega), g.i (n + 13) (by omega), g.i (n + 14) (by omega), g.i (n + 15) (by omega)]
  rfl
theorem compS_ok : compS.OK Try.prog := by
  refine pure_of (Γ := [cmpS]) (fun t ht => by rw [List.mem_singleton] at ht; subst ht; exact cmpS_ok) compW rfl rfl rfl (fun q _ _ => ?_) (fun q hq hN => ⟨fun _ _ => True, fun _ _ => 0, ?_⟩)
  · exact shape_int _
  · rw [tok_in] at hN ⊢
    have h1 : bytes256 (tnum q 0) := by
      have := hN _ (List.mem_cons_self ..)
      rwa [tokL_num] at this
    have h2 : bytes256 (tnum q 16) := by
      have := hN _ (List.mem_cons_of_mem _ (List.mem_cons_self ..))
      rwa [tokL_num] at this
    have eG : compG [.agg ((tnum q 0).map (Value.int .u8)).toArray, .agg ((tnum q 16).map (Value.int .u8)).toArray] = .int .i64 (lex (tnum q 0) (tnum q 16)) := by
      show Value.int .i64 (lex (tokL _) (tokL _)) = _
      rw [tokL_num, tokL_num]
    simp only [eG]
    show Nd.holds _ _ _ compNd
    unfold compNd
    simp only [Nd.holds, X.pre, X.rel, X.n, Src.ok, Src.len, Src.vals, true_and, and_true, if_true, Nat.mul_one, Nat.add_zero, Nat.reduceAdd, List.length_cons, List.length_nil, bT_tt, bT_ff, bT_bvar, bT_not, bT_and, bT_or, bT_ite, bT_lt, bT_le, bT_eq, bT_beq, bT_seq, bT_hB, bT_his, bT_hby, bT_hism, bT_hks, iev_lit, iev_var, iev_add, iev_sub, iev_mul, iev_wrap, iev_ite, iev_hI, iev_hP, iev_hmlen, sev_ite, sev_slit, sev_sof, sev_svar, TV.ev, SV.ev, CV.ev, List.map_cons, List.map_nil, Res.hl, cpTV, Cp.sv, Ck.cv, cpSVs, Cp.len, Ck.len, newHs_zero, newHs_one, roots_ne, kg0, kr0, kc0]
    intro q1 g1 p1 q2 g2 p2
    have g : Agree 32 q q2 := g1.trans (g2.mono (by omega))
    have c1 : ∀ j z, (tnum q 0)[j]? = some z → ((ckCVs 0 tk).map (CV.ev q2))[0 + j]? = some (.int .u8 z) := by
      rw [tok_cells g (by omega)]
      intro j z hz
      rw [Nat.zero_add, List.getElem?_map, hz]; rfl
    have c2 : ∀ j z, (tnum q 16)[j]? = some z → ((ckCVs 16 tk).map (CV.ev q2))[0 + j]? = some (.int .u8 z) := by
      rw [tok_cells g (by omega)]
      intro j z hz
      rw [Nat.zero_add, List.getElem?_map, hz]; rfl
    have p1' : 0 ≤ q2.i 32 := by rw [g2.i 32 (by omega)]; exact p1
    have r1 := rdB_blk (T := 26) (n := 16) (c := 16) p1' c1 rfl
    have r2 := rdB_blk (T := 26) (n := 16) (c := 16) p2 c2 rfl
    refine ⟨⟨_, _, tnum q 0, tnum q 16, _, _, rfl, rfl, r1, r2, (by simp [tnum]), rfl, h1, h2⟩, fun q3 g3 ⟨F, ⟨u, v, a, b, R1, R2, hx, hR, ha, hb, hv⟩, _⟩ => ?_⟩
    simp only [List.cons.injEq, and_true] at hx hR
    obtain ⟨rfl, rfl⟩ := hx
    obtain ⟨rfl, rfl⟩ := hR
    rw [← ha.uniq r1, ← hb.uniq r2]
    exact hv
def lessNd : Nd := .ext (.alloc 32) (.ext (.alloc 33) (.and (.imp (.not (.eq (.var 0) (.var 16))) (.post [.dead, .dead] (.sv (.one (.bool (.lt (.var 0) (.var 16))))))) (.imp (.eq (.var 0) (.var 16)) (.and (.imp (.not (.eq (.var 1) (.var 17))) (.post [.dead, .dead] (.sv (.one (.bool (.lt (.var 1) (.var 17))))))) (.imp (.eq (.var 1) (.var 17)) (.and (.imp (.not (.eq (.var 2) (.var 18))) (.post [.dead, .dead] (.sv (.one (.bool (.lt (.var 2) (.var 18))))))) (.imp (.eq (.var 2) (.var 18)) (.and (.imp (.not (.eq (.var 3) (.var 19))) (.post [.dead, .dead] (.sv (.one (.bool (.lt (.var 3) (.var 19))))))) (.imp (.eq (.var 3) (.var 19)) (.and (.imp (.not (.eq (.var 4) (.var 20))) (.post [.dead, .dead] (.sv (.one (.bool (.lt (.var 4) (.var 20))))))) (.imp (.eq (.var 4) (.var 20)) (.and (.imp (.not (.eq (.var 5) (.var 21))) (.post [.dead, .dead] (.sv (.one (.bool (.lt (.var 5) (.var 21))))))) (.imp (.eq (.var 5) (.var 21)) (.and (.imp (.not (.eq (.var 6) (.var 22))) (.post [.dead, .dead] (.sv (.one (.bool (.lt (.var 6) (.var 22))))))) (.imp (.eq (.var 6) (.var 22)) (.and (.imp (.not (.eq (.var 7) (.var 23))) (.post [.dead, .dead] (.sv (.one (.bool (.lt (.var 7) (.var 23))))))) (.imp (.eq (.var 7) (.var 23)) (.and (.imp (.not (.eq (.var 8) (.var 24))) (.post [.dead, .dead] (.sv (.one (.bool (.lt (.var 8) (.var 24))))))) (.imp (.eq (.var 8) (.var 24)) (.and (.imp (.not (.eq (.var 9) (.var 25))) (.post [.dead, .dead] (.sv (.one (.bool (.lt (.var 9) (.var 25))))))) (.imp (.eq (.var 9) (.var 25)) (.and (.imp (.not (.eq (.var 10) (.var 26))) (.post [.dead, .dead] (.sv (.one (.bool (.lt (.var 10) (.var 26))))))) (.imp (.eq (.var 10) (.var 26)) (.and (.imp (.not (.eq (.var 11) (.var 27))) (.post [.dead, .dead] (.sv (.one (.bool (.lt (.var 11) (.var 27))))))) (.imp (.eq (.var 11) (.var 27)) (.and (.imp (.not (.eq (.var 12) (.var 28))) (.post [.dead, .dead] (.sv (.one (.bool (.lt (.var 12) (.var 28))))))) (.imp (.eq (.var 12) (.var 28)) (.and (.imp (.not (.eq (.var 13) (.var 29))) (.post [.dead, .dead] (.sv (.one (.bool (.lt (.var 13) (.var 29))))))) (.imp (.eq (.var 13) (.var 29)) (.and (.imp (.not (.eq (.var 14) (.var 30))) (.post [.dead, .dead] (.sv (.one (.bool (.lt (.var 14) (.var 30))))))) (.imp (.eq (.var 14) (.var 30)) (.and (.imp (.not (.eq (.var 15) (.var 31))) (.post [.dead, .dead] (.sv (.one (.bool (.lt (.var 15) (.var 31))))))) (.imp (.eq (.var 15) (.var 31)) (.post [.dead, .dead] (.sv (.one (.bool .ff)))))))))))))))))))))))))))))))))))))
def lessW : Walk Try.prog [] 43 where
  Λ := noLoops
  args := (cpSVs 0 [.agg tk, .agg tk]).map .sv
  mem := []
  nv := 32
  nd := lessNd
  ok := by kernel_rfl
theorem lex_ne {a b : Int} {xs ys : List Int} (h : ¬ a = b) : decide (a < b) = decide (lex (a :: xs) (b :: ys) < 0) := by
  unfold lex
  by_cases h1 : a < b
  · simp [h1]
  · have h2 : b < a := by omega
    simp [h1, h2]
theorem lex_eq {a b : Int} {xs ys : List Int} (h : a = b) : lex (a :: xs) (b :: ys) = lex xs ys := by
  subst h
  show (if a < a then _ else if a < a then _ else _) = _
  rw [if_neg (Int.lt_irrefl _), if_neg (Int.lt_irrefl _)]
theorem lessK {a b : Int} {xs ys : List Int} {u v : Value} {Y : Prop} (hu : u = .bool (decide (a < b))) (hv : v = .bool (decide (lex (a :: xs) (b :: ys) < 0))) (h : v = .bool (decide (lex xs ys < 0)) → Y) : (¬ a = b → u = v) ∧ (a = b → Y) :=
  ⟨fun hn => by rw [hu, hv, lex_ne hn], fun he => h (by rw [hv, lex_eq he])⟩
theorem tnum_list (q : Env) (n : Nat) : tnum q n = [q.i n, q.i (n + 1), q.i (n + 2), q.i (n + 3), q.i (n + 4), q.i (n + 5), q.i (n + 6), q.i (n + 7), q.i (n + 8), q.i (n + 9), q.i (n + 10), q.i (n + 11), q.i (n + 12), q.i (n + 13), q.i (n + 14), q.i (n + 15)] := rfl
theorem lessS_ok : lessS.OK Try.prog := by
  refine pure_of (Γ := []) (fun t ht => by cases ht) lessW rfl rfl rfl (fun q _ _ => ?_) (fun q hq hN => ⟨fun _ _ => True, fun _ _ => 0, ?_⟩)
  · exact shape_bool _
  · rw [tok_in]
    have eG : lessG [.agg ((tnum q 0).map (Value.int .u8)).toArray, .agg ((tnum q 16).map (Value.int .u8)).toArray] = .bool (decide (lex (tnum q 0) (tnum q 16) < 0)) := by
      show Value.bool (decide (lex (tokL _) (tokL _) < 0)) = _
      rw [tokL_num, tokL_num]
    simp only [eG]
    show Nd.holds _ _ _ lessNd
    unfold lessNd
    simp only [Nd.holds, X.pre, X.rel, X.n, Src.ok, Src.len, Src.vals, true_and, and_true, if_true, Nat.mul_one, Nat.add_zero, Nat.reduceAdd, List.length_cons, List.length_nil, bT_tt, bT_ff, bT_bvar, bT_not, bT_and, bT_or, bT_ite, bT_lt, bT_le, bT_eq, bT_beq, bT_seq, bT_hB, bT_his, bT_hby, bT_hism, bT_hks, iev_lit, iev_var, iev_add, iev_sub, iev_mul, iev_wrap, iev_ite, iev_hI, iev_hP, iev_hmlen, sev_ite, sev_slit, sev_sof, sev_svar, TV.ev, SV.ev, CV.ev, List.map_cons, List.map_nil, Res.hl, cpTV, Cp.sv, Ck.cv, cpSVs, Cp.len, Ck.len, newHs_zero, newHs_one, roots_ne]
    intro q1 g1 p1 q2 g2 p2
    have g : Agree 32 q q2 := g1.trans (g2.mono (by omega))
    have e : ∀ n, n + 16 ≤ 32 → tnum q n = tnum q2 n := fun n hn => List.map_congr_left fun j hj => (g.i (n + j) (by have := List.mem_range.1 hj; omega)).symm
    rw [e 0 (by omega), e 16 (by omega), tnum_list, tnum_list]
    generalize hV : Value.bool (decide (lex _ _ < 0)) = V
    have hV := hV.symm
    exact lessK rfl hV fun h0 => lessK rfl h0 fun h1 => lessK rfl h1 fun h2 => lessK rfl h2 fun h3 => lessK rfl h3 fun h4 => lessK rfl h4 fun h5 => lessK rfl h5 fun h6 => lessK rfl h6 fun h7 => lessK rfl h7 fun h8 => lessK rfl h8 fun h9 => lessK rfl h9 fun h10 => lessK rfl h10 fun h11 => lessK rfl h11 fun h12 => lessK rfl h12 fun h13 => lessK rfl h13 fun h14 => lessK rfl h14 fun h15 => (h15.trans rfl).symm
/-! ### Tokens that rise -/
def toksIn (T : List (List Int)) : Prop := T.length ≤ 1000000 ∧ ∀ t ∈ T, t.length = 16 ∧ bytes256 t
open Classical in
noncomputable def sortS (f : FuncId) : Sx.Spec where
  fn := f
  own := []
  rd := [0]
  res := [.one .bool]
  pre := fun xs Hs Rs => ∃ u R T, xs = [u] ∧ Rs = [R] ∧ RdRows R u tkd (T.map bys) ∧ toksIn T
  post := fun xs Hs Rs v Hs' F => ∃ u R T, xs = [u] ∧ Rs = [R] ∧ RdRows R u tkd (T.map bys) ∧ v = .bool (decide (SortedT T))
def kSortNd : Nd := .and (.inv 0 [⟨10, 0, .int .i64 (.lit 1)⟩] []) (.havoc 0 0 5 (.and (.e (.le (.lit 0) (.var 2))) (.and (.imp (.lt (.var 10) (.var 2)) (.and (.e (.le (.lit 0) (.var 0))) (.and (.e (.le (.lit 0) (.var 1))) (.and (.e (.le (.lit 0) (.wrap .i64 (.sub (.var 10) (.lit 1))))) (.and (.e (.lt (.wrap .i64 (.sub (.var 10) (.lit 1))) (.var 2))) (.and (.e (.hby 4 (.var 0) (.add (.var 1) (.mul (.wrap .i64 (.sub (.var 10) (.lit 1))) (.lit 16))) (.lit 16))) (.and (.e (.le (.lit 0) (.var 10))) (.and (.e (.hby 4 (.var 0) (.add (.var 1) (.mul (.var 10) (.lit 16))) (.lit 16))) (.and (.pre (.call 1 12 [.sv (.agg (romCells 4 (.var 0) (.add (.var 1) (.mul (.wrap .i64 (.sub (.var 10) (.lit 1))) (.lit 16))) 0 (List.replicate 16 (Kd.int .u8)))), .sv (.agg (romCells 4 (.var 0) (.add (.var 1) (.mul (.var 10) (.lit 16))) 0 (List.replicate 16 (Kd.int .u8))))] [] [])) (.ext (.call 1 12 [.sv (.agg (romCells 4 (.var 0) (.add (.var 1) (.mul (.wrap .i64 (.sub (.var 10) (.lit 1))) (.lit 16))) 0 (List.replicate 16 (Kd.int .u8)))), .sv (.agg (romCells 4 (.var 0) (.add (.var 1) (.mul (.var 10) (.lit 16))) 0 (List.replicate 16 (Kd.int .u8))))] [] []) (.and (.imp (.le (.lit 0) (.var 12)) (.post [.ro 4 [.var 0] false] (.sv (.one (.bool .ff))))) (.imp (.not (.le (.lit 0) (.var 12))) (.back 0 0 [⟨10, 0, .int .i64 (.wrap .i64 (.add (.var 10) (.lit 1)))⟩] []))))))))))))) (.imp (.not (.lt (.var 10) (.var 2))) (.post [.ro 4 [.var 0] false] (.sv (.one (.bool .tt))))))))
def rSortNd : Nd := .and (.inv 0 [⟨10, 0, .int .i64 (.lit 0)⟩] []) (.havoc 0 0 5 (.and (.e (.le (.lit 0) (.var 2))) (.and (.imp (.lt (.wrap .i64 (.add (.var 10) (.lit 1))) (.var 2)) (.and (.e (.le (.lit 0) (.var 0))) (.and (.e (.le (.lit 0) (.var 1))) (.and (.e (.le (.lit 0) (.var 10))) (.and (.e (.lt (.var 10) (.var 2))) (.and (.e (.hby 4 (.var 0) (.add (.var 1) (.mul (.var 10) (.lit 16))) (.lit 16))) (.and (.e (.le (.lit 0) (.wrap .i64 (.add (.var 10) (.lit 1))))) (.and (.e (.hby 4 (.var 0) (.add (.var 1) (.mul (.wrap .i64 (.add (.var 10) (.lit 1))) (.lit 16))) (.lit 16))) (.and (.pre (.call 2 12 [.sv (.agg (romCells 4 (.var 0) (.add (.var 1) (.mul (.var 10) (.lit 16))) 0 (List.replicate 16 (Kd.int .u8)))), .sv (.agg (romCells 4 (.var 0) (.add (.var 1) (.mul (.wrap .i64 (.add (.var 10) (.lit 1))) (.lit 16))) 0 (List.replicate 16 (Kd.int .u8))))] [] [])) (.ext (.call 2 12 [.sv (.agg (romCells 4 (.var 0) (.add (.var 1) (.mul (.var 10) (.lit 16))) 0 (List.replicate 16 (Kd.int .u8)))), .sv (.agg (romCells 4 (.var 0) (.add (.var 1) (.mul (.wrap .i64 (.add (.var 10) (.lit 1))) (.lit 16))) 0 (List.replicate 16 (Kd.int .u8))))] [] []) (.and (.imp (.not (.bvar 12)) (.post [.ro 4 [.var 0] false] (.sv (.one (.bool .ff))))) (.imp (.bvar 12) (.back 0 0 [⟨10, 0, .int .i64 (.wrap .i64 (.add (.var 10) (.lit 1)))⟩] []))))))))))))) (.imp (.not (.lt (.wrap .i64 (.add (.var 10) (.lit 1))) (.var 2))) (.post [.ro 4 [.var 0] false] (.sv (.one (.bool .tt))))))))
def srtΓ : List Sx.Spec := [cmpS, compS, lessS]
theorem srtΓ_ok : ∀ t ∈ srtΓ, t.OK Try.prog := fun t ht => by
  simp only [srtΓ, List.mem_cons, List.mem_nil_iff, or_false] at ht
  rcases ht with rfl | rfl | rfl
  · exact cmpS_ok
  · exact compS_ok
  · exact lessS_ok
theorem sg1 : srtΓ[1]? = some compS := rfl
theorem sg2 : srtΓ[2]? = some lessS := rfl
theorem sr1 : compS.res = [.one (.int .i64)] := rfl
theorem sr2 : lessS.res = [.one .bool] := rfl
theorem sc1 (n : Nat) : (cpRoots n [Cp.one (.int .i64)] ≠ []) = False := by simp [cpRoots, Cp.roots, Ck.root]
theorem sc2 (n : Nat) : (cpRoots n [Cp.one .bool] ≠ []) = False := by simp [cpRoots, Cp.roots, Ck.root]
def srtArgs : List TV := [.sv (.one (.sl (.var 0) (.var 1) (.var 2) (.var 3)))]
def kSortW : Walk Try.prog srtΓ 46 where
  Λ := fun p => if lp0 p then some ⟨0, [(3, TI .i64 (.var 10))], [], 12⟩ else none
  args := srtArgs
  mem := [.ro 4 [.var 0] false]
  nv := 5
  nd := kSortNd
  ok := by kernel_rfl
def rSortW : Walk Try.prog srtΓ 20 where
  Λ := fun p => if lp0 p then some ⟨0, [(3, TI .i64 (.var 10))], [], 12⟩ else none
  args := srtArgs
  mem := [.ro 4 [.var 0] false]
  nv := 5
  nd := rSortNd
  ok := by kernel_rfl
theorem tokIn {a b : List Int} (ha : a.length = 16) (hb : b.length = 16) (h1 : bytes256 a) (h2 : bytes256 b) : (∃ q, cpNormsW 0 [.agg tk, .agg tk] q ∧ [.agg (bys a).toArray, .agg (bys b).toArray] = inVs [.agg tk, .agg tk] q) ∧ tokN [.agg (bys a).toArray, .agg (bys b).toArray] := by
  refine ⟨⟨envI (a ++ b) false [], by simp [cpNormsW, cpNormW, tk, ckNormsW, ckNormW, ckNorms, ckNorm, List.replicate], ?_⟩, ?_⟩
  · rw [tok_in]
    have e1 : tnum (envI (a ++ b) false []) 0 = a := by
      apply List.ext_getElem?
      intro j
      unfold tnum
      rw [List.getElem?_map]
      by_cases hj : j < 16
      · rw [List.getElem?_range hj, List.getElem?_eq_getElem (by omega)]
        show some ((a ++ b).getD (0 + j) 0) = _
        rw [Nat.zero_add, List.getD_eq_getElem?_getD, List.getElem?_append_left (by omega), List.getElem?_eq_getElem (by omega)]; rfl
      · rw [List.getElem?_eq_none (by simp; omega), List.getElem?_eq_none (by omega)]; rfl
    have e2 : tnum (envI (a ++ b) false []) 16 = b := by
      apply List.ext_getElem?
      intro j
      unfold tnum
      rw [List.getElem?_map]
      by_cases hj : j < 16
      · rw [List.getElem?_range hj, List.getElem?_eq_getElem (by omega)]
        show some ((a ++ b).getD (16 + j) 0) = _
        rw [List.getD_eq_getElem?_getD, List.getElem?_append_right (by omega), show 16 + j - a.length = j by omega, List.getElem?_eq_getElem (by omega)]; rfl
      · rw [List.getElem?_eq_none (by simp; omega), List.getElem?_eq_none (by omega)]; rfl
    rw [e1, e2]; rfl
  · intro v hv
    simp only [List.mem_cons, List.mem_nil_iff, or_false] at hv
    rcases hv with rfl | rfl
    · show bytes256 (tokL (.agg (a.map (Value.int .u8)).toArray)); rw [tokL_num]; exact h1
    · show bytes256 (tokL (.agg (b.map (Value.int .u8)).toArray)); rw [tokL_num]; exact h2
theorem rowOK_tok {t : List Int} (h : t.length = 16) : rowOK (bys t) tkd := by
  match t, h with
  | [_, _, _, _, _, _, _, _, _, _, _, _, _, _, _, _], _ => exact ⟨rfl, rfl, rfl, rfl, rfl, rfl, rfl, rfl, rfl, rfl, rfl, rfl, rfl, rfl, rfl, rfl, trivial⟩
/-- A token that is read out of many. -/
theorem tok_at {R : Hl} {x y : Int} {T : List (List Int)} (hx : 0 ≤ x) (hy : 0 ≤ y) (hc : ∀ (i : Nat) row, (T.map bys)[i]? = some row → rowOK row tkd ∧ ∀ j u, row[j]? = some u → R.cell x.toNat (y.toNat + i * tkd.length + j) = some u) {i : Nat} {t : List Int} (ht : T[i]? = some t) (hl : t.length = 16) {ρ : Env} {h : Nat} (hR : ρ.h h = R) {X Y : E} (hX : iev ρ X = x) (hY : iev ρ Y = y + i * 16) :
    cellBytes R x.toNat (y + (i : Int) * 16).toNat (Int.toNat 16) = true ∧ (romCells h X Y 0 (List.replicate 16 (Kd.int .u8))).map (CV.ev ρ) = bys t := by
  have h1 := (hc i (bys t) (by rw [List.getElem?_map, ht]; rfl)).2
  have hlen : tkd.length = 16 := rfl
  rw [hlen] at h1
  have hyi : (y + (i : Int) * 16).toNat = y.toNat + i * 16 := by omega
  constructor
  · unfold cellBytes
    rw [List.all_eq_true]
    intro j hj
    have hj : j < 16 := List.mem_range.1 hj
    rw [hyi, h1 j (.int .u8 (t[j])) (by unfold bys; rw [List.getElem?_map, List.getElem?_eq_getElem (by omega)]; rfl)]
    rfl
  · refine romCells_row (bys t) _ 0 (rowOK_tok hl) fun j u hu => ?_
    rw [hR, hX, hY, hyi, Nat.zero_add]
    exact h1 j u hu
theorem comp_post {a b : List Int} {v : Value} {F : Hl} {Hs Rs K : List Hl} (hp : compS.post [.agg (bys a).toArray, .agg (bys b).toArray] Hs Rs v K F) : v = .int .i64 (lex a b) := by
  have hp : v = .int .i64 (lex (tokL (.agg (a.map (Value.int .u8)).toArray)) (tokL (.agg (b.map (Value.int .u8)).toArray))) := hp
  rw [tokL_num, tokL_num] at hp
  exact hp
theorem less_post {a b : List Int} {v : Value} {F : Hl} {Hs Rs K : List Hl} (hp : lessS.post [.agg (bys a).toArray, .agg (bys b).toArray] Hs Rs v K F) : v = .bool (decide (lex a b < 0)) := by
  have hp : v = .bool (decide (lex (tokL (.agg (a.map (Value.int .u8)).toArray)) (tokL (.agg (b.map (Value.int .u8)).toArray)) < 0)) := hp
  rw [tokL_num, tokL_num] at hp
  exact hp
open Classical in
theorem srt_post {f : FuncId} {x y : Int} {c : Nat} {T : List (List Int)} {R : Hl} {b : Bool} (h : RdRows R (.slice (slP x y) (T.map bys).length c) tkd (T.map bys)) (hb : b = true ↔ SortedT T) {q : Env} {e : E} (he : bev q e = b) {mem : Mem} : postOf (sortS f) [.slice (slP x y) (T.map bys).length c] [] [R] q mem (.sv (.one (.bool e))) := by
  intro _
  refine ⟨[], [], rfl, rfl, ⟨⟨fun _ => 0, fun _ => b, fun _ => .empty, fun _ => .tuple #[], fun _ => Hl.none⟩, by show Value.bool (bev q e) = _; rw [he]; rfl, trivial, trivial⟩, _, R, T, rfl, rfl, h, ?_⟩
  show Value.bool (bev q e) = _
  rw [he]
  congr 1
  rw [Bool.eq_iff_iff, decide_eq_true_eq]; exact hb
theorem kSortS_ok : (sortS 46).OK Try.prog := by
  refine Spec.of_fn (Γ := srtΓ) srtΓ_ok ?_
  rintro xs Hs Rs hl1 hl2 ⟨u, R, T, rfl, rfl, hR, hT⟩
  have e0 : Hs = [] := List.length_eq_zero_iff.1 hl1
  subst e0
  obtain ⟨x, y, c, rfl, hy, hrows⟩ := id hR
  refine ⟨kSortW, envI [x, y, T.length, c] false [Hl.none, Hl.none, Hl.none, Hl.none, R], fun _ q => ∃ i : Nat, q.i 10 = i ∧ 1 ≤ i ∧ i ≤ T.length + 1 ∧ ∀ k, k + 1 < i → k + 1 < T.length → lex (T.getD k []) (T.getD (k + 1) []) < 0, fun _ q => (T.length - q.i 10).toNat, ?_, ⟨?_, ?_, ?_, ?_⟩, (fun _ h => nomatch h), ?_⟩
  · rw [List.length_map]
    show [Value.slice (slP x y) ((T.length : Int)).toNat ((c : Int)).toNat] = _
    rw [Int.toNat_natCast, Int.toNat_natCast]
  · intro r hr ho; simp [kSortW] at hr; subst hr; cases ho
  · intro r hr ho; simp [kSortW] at hr; subst hr; exact ⟨R, by simp, Hl.le_refl _⟩
  · simp [kSortW]
  · intro r hr; simp [kSortW] at hr; subst hr; trivial
  · show Nd.holds _ _ _ kSortNd
    generalize hρ : envI [x, y, T.length, c] false [Hl.none, Hl.none, Hl.none, Hl.none, R] = ρ
    have v0 : ρ.i 0 = x := by rw [← hρ]; rfl
    have v1 : ρ.i 1 = y := by rw [← hρ]; rfl
    have v2 : ρ.i 2 = T.length := by rw [← hρ]; rfl
    have w4 : ρ.h 4 = R := by rw [← hρ]; rfl
    clear hρ
    unfold kSortNd
    simp only [Nd.holds, X.pre, X.rel, X.n, Src.ok, Src.len, Src.vals, true_and, and_true, if_true, Nat.mul_one, Nat.add_zero, Nat.reduceAdd, List.length_cons, List.length_nil, bT_tt, bT_ff, bT_bvar, bT_not, bT_and, bT_or, bT_ite, bT_lt, bT_le, bT_eq, bT_beq, bT_seq, bT_hB, bT_his, bT_hby, bT_hism, bT_hks, iev_lit, iev_var, iev_add, iev_sub, iev_mul, iev_wrap, iev_ite, iev_hI, iev_hP, iev_hmlen, sev_ite, sev_slit, sev_sof, sev_svar, TV.ev, SV.ev, CV.ev, List.map_cons, List.map_nil, Res.hl, cpTV, Cp.sv, Ck.cv, cpSVs, Cp.len, Ck.len, newHs_zero, newHs_one, roots_ne, sg1, sr1, sc1]
    refine ⟨⟨1, rfl, Nat.le_refl _, by omega, fun k h => by omega⟩, fun q g ⟨i, ei, hi1, hi2, hlt⟩ => ?_⟩
    have hTl := hT.1
    rw [g.i 2 (by omega), v2, ei, g.i 0 (by omega), v0, g.i 1 (by omega), v1, g.h 4 (by omega), w4]
    have ew : IntKind.i64.wrap ((i : Int) - 1) = ((i - 1 : Nat) : Int) := by rw [IntWalk.i64_in _ (by omega)]; omega
    rw [ew]
    refine ⟨by omega, fun h => ?_, fun h => ?_⟩
    · have hiT : i < T.length := by omega
      rcases hrows with hn | ⟨hx, hc⟩
      · rw [List.map_eq_nil_iff] at hn
        rw [hn] at hiT; cases hiT
      have ht1 : T[i - 1]? = some (T[i - 1]) := List.getElem?_eq_getElem (by omega)
      have ht2 : T[i]? = some (T[i]) := List.getElem?_eq_getElem hiT
      have m1 := hT.2 _ (List.mem_of_getElem? ht1)
      have m2 := hT.2 _ (List.mem_of_getElem? ht2)
      obtain ⟨b1, r1⟩ := tok_at (ρ := q) (h := 4) (X := .var 0) (Y := (E.var 1).add ((E.wrap IntKind.i64 ((E.var 10).sub (E.lit 1))).mul (E.lit 16))) hx hy hc ht1 m1.1 (by rw [g.h 4 (by omega), w4]) (by rw [iev_var, g.i 0 (by omega), v0]) (by
        simp only [iev_add, iev_mul, iev_wrap, iev_sub, iev_var, iev_lit]
        rw [g.i 1 (by omega), v1, ei, ew])
      obtain ⟨b2, r2⟩ := tok_at (ρ := q) (h := 4) (X := .var 0) (Y := (E.var 1).add ((E.var 10).mul (E.lit 16))) hx hy hc ht2 m2.1 (by rw [g.h 4 (by omega), w4]) (by rw [iev_var, g.i 0 (by omega), v0]) (by
        simp only [iev_add, iev_mul, iev_var, iev_lit]
        rw [g.i 1 (by omega), v1, ei])
      rw [r1, r2]
      refine ⟨hx, hy, by omega, by omega, b1, by omega, b2, tokIn m1.1 m2.1 m1.2 m2.2, fun q1 g1 ⟨F, hp, _⟩ => ?_⟩
      have hv := comp_post hp
      have hv : q1.i 12 = lex T[i - 1] T[i] := by simpa using hv
      have d1 : T.getD (i - 1) [] = T[i - 1] := by rw [List.getD_eq_getElem?_getD, ht1]; rfl
      have d2 : T.getD (i - 1 + 1) [] = T[i] := by rw [show i - 1 + 1 = i by omega, List.getD_eq_getElem?_getD, ht2]; rfl
      have ew2 : IntKind.i64.wrap (q1.i 10 + 1) = ((i + 1 : Nat) : Int) := by rw [g1.i 10 (by omega), ei, IntWalk.i64_in _ (by omega)]; omega
      rw [hv]
      refine ⟨fun hge => srt_post (b := false) hR ⟨(by simp), fun hS => ?_⟩ rfl, fun hl => ⟨⟨i + 1, ew2, by omega, by omega, fun k hk hkT => ?_⟩, ?_⟩⟩
      · have := hS (i - 1) (by omega)
        rw [d1, d2] at this
        omega
      · rcases Nat.lt_or_ge (k + 1) i with h1 | h1
        · exact hlt k h1 hkT
        · obtain rfl : k = i - 1 := by omega
          rw [d1, d2]; omega
      · show ((T.length : Int) - IntKind.i64.wrap (q1.i 10 + 1)).toNat < _
        rw [ew2]; omega
    · exact srt_post (b := true) hR ⟨fun _ k hk => hlt k (by omega) hk, fun _ => rfl⟩ rfl
theorem rSortS_ok : (sortS 20).OK Try.prog := by
  refine Spec.of_fn (Γ := srtΓ) srtΓ_ok ?_
  rintro xs Hs Rs hl1 hl2 ⟨u, R, T, rfl, rfl, hR, hT⟩
  have e0 : Hs = [] := List.length_eq_zero_iff.1 hl1
  subst e0
  obtain ⟨x, y, c, rfl, hy, hrows⟩ := id hR
  refine ⟨rSortW, envI [x, y, T.length, c] false [Hl.none, Hl.none, Hl.none, Hl.none, R], fun _ q => ∃ i : Nat, q.i 10 = i ∧ i ≤ T.length ∧ ∀ k, k < i → k + 1 < T.length → lex (T.getD k []) (T.getD (k + 1) []) < 0, fun _ q => (T.length - q.i 10).toNat, ?_, ⟨?_, ?_, ?_, ?_⟩, (fun _ h => nomatch h), ?_⟩
  · rw [List.length_map]
    show [Value.slice (slP x y) ((T.length : Int)).toNat ((c : Int)).toNat] = _
    rw [Int.toNat_natCast, Int.toNat_natCast]
  · intro r hr ho; simp [rSortW] at hr; subst hr; cases ho
  · intro r hr ho; simp [rSortW] at hr; subst hr; exact ⟨R, by simp, Hl.le_refl _⟩
  · simp [rSortW]
  · intro r hr; simp [rSortW] at hr; subst hr; trivial
  · show Nd.holds _ _ _ rSortNd
    generalize hρ : envI [x, y, T.length, c] false [Hl.none, Hl.none, Hl.none, Hl.none, R] = ρ
    have v0 : ρ.i 0 = x := by rw [← hρ]; rfl
    have v1 : ρ.i 1 = y := by rw [← hρ]; rfl
    have v2 : ρ.i 2 = T.length := by rw [← hρ]; rfl
    have w4 : ρ.h 4 = R := by rw [← hρ]; rfl
    clear hρ
    unfold rSortNd
    simp only [Nd.holds, X.pre, X.rel, X.n, Src.ok, Src.len, Src.vals, true_and, and_true, if_true, Nat.mul_one, Nat.add_zero, Nat.reduceAdd, List.length_cons, List.length_nil, bT_tt, bT_ff, bT_bvar, bT_not, bT_and, bT_or, bT_ite, bT_lt, bT_le, bT_eq, bT_beq, bT_seq, bT_hB, bT_his, bT_hby, bT_hism, bT_hks, iev_lit, iev_var, iev_add, iev_sub, iev_mul, iev_wrap, iev_ite, iev_hI, iev_hP, iev_hmlen, sev_ite, sev_slit, sev_sof, sev_svar, TV.ev, SV.ev, CV.ev, List.map_cons, List.map_nil, Res.hl, cpTV, Cp.sv, Ck.cv, cpSVs, Cp.len, Ck.len, newHs_zero, newHs_one, roots_ne, sg2, sr2, sc2]
    refine ⟨⟨0, rfl, by omega, fun k h => by omega⟩, fun q g ⟨i, ei, hi2, hlt⟩ => ?_⟩
    have hTl := hT.1
    rw [g.i 2 (by omega), v2, ei, g.i 0 (by omega), v0, g.i 1 (by omega), v1, g.h 4 (by omega), w4]
    have ew : IntKind.i64.wrap ((i : Int) + 1) = ((i + 1 : Nat) : Int) := by rw [IntWalk.i64_in _ (by omega)]; omega
    rw [ew]
    refine ⟨by omega, fun h => ?_, fun h => ?_⟩
    · have hiT : i + 1 < T.length := by omega
      rcases hrows with hn | ⟨hx, hc⟩
      · rw [List.map_eq_nil_iff] at hn
        rw [hn] at hiT; cases hiT
      have ht1 : T[i]? = some (T[i]) := List.getElem?_eq_getElem (by omega)
      have ht2 : T[i + 1]? = some (T[i + 1]) := List.getElem?_eq_getElem hiT
      have m1 := hT.2 _ (List.mem_of_getElem? ht1)
      have m2 := hT.2 _ (List.mem_of_getElem? ht2)
      obtain ⟨b1, r1⟩ := tok_at (ρ := q) (h := 4) (X := .var 0) (Y := (E.var 1).add ((E.var 10).mul (E.lit 16))) hx hy hc ht1 m1.1 (by rw [g.h 4 (by omega), w4]) (by rw [iev_var, g.i 0 (by omega), v0]) (by
        simp only [iev_add, iev_mul, iev_var, iev_lit]
        rw [g.i 1 (by omega), v1, ei])
      obtain ⟨b2, r2⟩ := tok_at (ρ := q) (h := 4) (X := .var 0) (Y := (E.var 1).add ((E.wrap IntKind.i64 ((E.var 10).add (E.lit 1))).mul (E.lit 16))) hx hy hc ht2 m2.1 (by rw [g.h 4 (by omega), w4]) (by rw [iev_var, g.i 0 (by omega), v0]) (by
        simp only [iev_add, iev_mul, iev_wrap, iev_var, iev_lit]
        rw [g.i 1 (by omega), v1, ei, ew])
      rw [r1, r2]
      refine ⟨hx, hy, by omega, by omega, b1, by omega, b2, ⟨(tokIn m1.1 m2.1 m1.2 m2.2).1, trivial⟩, fun q1 g1 ⟨F, hp, _⟩ => ?_⟩
      have hv := less_post hp
      have hv : q1.b 12 = decide (lex T[i] T[i + 1] < 0) := by simpa [bev_bvar] using hv
      have d1 : T.getD i [] = T[i] := by rw [List.getD_eq_getElem?_getD, ht1]; rfl
      have d2 : T.getD (i + 1) [] = T[i + 1] := by rw [List.getD_eq_getElem?_getD, ht2]; rfl
      have ew2 : IntKind.i64.wrap (q1.i 10 + 1) = ((i + 1 : Nat) : Int) := by rw [g1.i 10 (by omega), ei, ew]
      rw [hv, decide_eq_true_eq]
      refine ⟨fun hge => srt_post (b := false) hR ⟨(by simp), fun hS => ?_⟩ rfl, fun hl => ⟨⟨i + 1, ew2, by omega, fun k hk hkT => ?_⟩, ?_⟩⟩
      · have := hS i (by omega)
        rw [d1, d2] at this
        exact absurd this hge
      · rcases Nat.lt_or_ge k i with h1 | h1
        · exact hlt k h1 hkT
        · obtain rfl : k = i := by omega
          rw [d1, d2]; exact hl
      · show ((T.length : Int) - IntKind.i64.wrap (q1.i 10 + 1)).toNat < _
        rw [ew2]; omega
    · exact srt_post (b := true) hR ⟨fun _ k hk => hlt k (by omega) hk, fun _ => rfl⟩ rfl
end Go.Proofs.Ytkdllpialpfopaa
