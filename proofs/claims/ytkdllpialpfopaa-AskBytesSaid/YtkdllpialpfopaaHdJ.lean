/- Layer 12: entry.Parse as a contract. Condition: at most a million bytes. -/
import Derived.Test.YtkdllpialpfopaaHdK
set_option linter.unusedSimpArgs false
set_option linter.unusedVariables false
set_option linter.constructorNameAsVariable false
namespace Go.Proofs.Ytkdllpialpfopaa
open Go Go.Sx Go.Pk

def zrow : List Value := [.int .i64 0, .int .u64 0] ++ List.replicate 32 (.int .u8 0) ++ [.int .i64 0, .bool false, .int .u64 0] ++ List.replicate 16 (.int .u8 0) ++ [.slice none 0 0, .int .u64 0, .int .u64 0, .int .u64 0, .int .u64 0, .int .u64 0, .int .u64 0] ++ List.replicate 32 (.int .u8 0) ++ [.int .i64 0] ++ List.replicate 32 (.int .u8 0)
def parsed (b : List Int) (v : Value) (F : Hl) : Prop :=
  (∃ row h, v = .tuple #[.agg row.toArray, .int .i64 0] ∧ IsHd F row h ∧ h.Form ∧ hdB h = b) ∨ (v = .tuple #[.agg zrow.toArray, .int .i64 2] ∧ ∀ R row h, IsHd R row h → h.Form → hdB h ≠ b)
def parseS : Sx.Spec where
  fn := 53
  own := []
  rd := [0]
  res := [.agg hk2, .one (.int .i64)]
  pre := fun xs Hs Rs => ∃ u bs R, xs = [u] ∧ Rs = [R] ∧ RdW R u bs ∧ bytes256 bs ∧ bs.length ≤ 1000000
  post := fun xs Hs Rs v Hs' F => ∃ u bs R, xs = [u] ∧ Rs = [R] ∧ RdW R u bs ∧ parsed bs v F
theorem pg0 : epΓ[0]? = some readPS := rfl
theorem pg1 : epΓ[1]? = some numS := rfl
theorem pg2 : epΓ[2]? = some flagS := rfl
theorem pg3 : epΓ[3]? = some rawS := rfl
theorem pg4 : epΓ[4]? = some overS := rfl
theorem pg5 : epΓ[5]? = some (formS 25) := rfl
theorem pr0 : readPS.res = [.one .ptr] := rfl
theorem pr1 : numS.res = [.one (.int .u64)] := rfl
theorem pr2 : flagS.res = [.one .bool] := rfl
theorem pr3 : rawS.res = [.one .sl] := rfl
theorem pr4 : overS.res = [.one .bool] := rfl
theorem pr5 (f : FuncId) : (formS f).res = [.one .bool] := rfl
theorem pc0 (n : Nat) : (cpRoots n [Cp.one .ptr] ≠ []) = True := by simp [cpRoots, Cp.roots, Ck.root]
theorem pc1 (n : Nat) : (cpRoots n [Cp.one (.int .u64)] ≠ []) = False := by simp [cpRoots, Cp.roots, Ck.root]
def InP (H : Hl) (p : Value) (s : PS) : Prop := InAt H p s.l s.bad
def loopRow (b : List Int) (u : Value) : List Value :=
  [.int .i64 (vNum 6 (p0 b)), .int .u64 (vNum 1048576 (p1 b))] ++ bys (padN 32 (vRaw 32 (p2 b))) ++ [.int .i64 (vNum 255 (p3 b)), .bool (vFlag (p4 b)), .int .u64 (vNum 1099511627776 (p5 b))] ++ bys (padN 16 (vRaw 16 (p6 b))) ++ [u] ++ List.replicate 6 (.int .u64 0) ++ List.replicate 32 (.int .u8 0) ++ [.int .i64 0] ++ List.replicate 32 (.int .u8 0)
section
variable {q : Env} {n : Nat} {p : Value} {H : Hl} {s : PS} {K : Env → Prop} {A : Env → Hl → Prop}
theorem iNum {m : Int} (h : InP H p s) (k : ∀ q', Agree n q q' → InP (q'.h n) p (pNum m s) → q'.i n = vNum m s → K q') :
    numS.pre [p, .int .u64 m] [H] [] ∧ ∀ q', Agree n q q' → (∃ F, numS.post [p, .int .u64 m] [H] [] (.int .u64 (q'.i n)) [q'.h n] F ∧ A q' F) → K q' := by
  refine ⟨⟨_, m, H, s.l, s.bad, rfl, rfl, h⟩, fun q' g ⟨F, ⟨p', m', H1, bs, bad, H', e1, e2, hO, e3, hO', hv⟩, _⟩ => ?_⟩
  simp only [List.cons.injEq, Value.int.injEq, true_and, and_true] at e1 e2 e3
  obtain ⟨e1, em⟩ := e1
  subst e1 em e2
  obtain ⟨e4, e5⟩ := h.uniq hO
  subst e4 e5
  rw [← e3] at hO'
  simp only [Value.int.injEq, true_and] at hv
  exact k q' g hO' hv
theorem iFlag (h : InP H p s) (k : ∀ q', Agree n q q' → InP (q'.h n) p (pFlag s) → q'.b n = vFlag s → K q') :
    flagS.pre [p] [H] [] ∧ ∀ q', Agree n q q' → (∃ F, flagS.post [p] [H] [] (.bool (bev q' (.bvar n))) [q'.h n] F ∧ A q' F) → K q' := by
  refine ⟨⟨_, H, s.l, s.bad, rfl, rfl, h⟩, fun q' g ⟨F, ⟨p', H1, bs, bad, H', e1, e2, hO, e3, hO', hv⟩, _⟩ => ?_⟩
  simp only [List.cons.injEq, and_true] at e1 e2 e3
  subst e1 e2
  obtain ⟨e4, e5⟩ := h.uniq hO
  subst e4 e5
  rw [← e3] at hO'
  simp only [Value.bool.injEq, bev_bvar] at hv
  exact k q' g hO' hv
/-- Bytes that were taken, their own piece. -/
structure Took (F : Hl) (x y l c : Int) (raw : List Int) : Prop where
  rx : -1 ≤ x
  ry : 0 ≤ y
  len : l = raw.length
  rd : (x = -1 ∧ raw = []) ∨ (0 ≤ x ∧ ∀ j z, raw[j]? = some z → F.cell x.toNat (y.toNat + j) = some (.int .u8 z))
theorem iRaw {m : Int} (h : InP H p s) (k : ∀ q', Agree n q q' → InP (q'.h n) p (pRaw m s) → Took (q'.h (n + 1)) (q'.i n) (q'.i (n + 1)) (q'.i (n + 2)) (q'.i (n + 3)) (vRaw m s) → K q') :
    rawS.pre [p, .int .i64 m] [H] [] ∧ ∀ q', Agree n q q' → (∃ F, rawS.post [p, .int .i64 m] [H] [] (.slice (slP (q'.i n) (q'.i (n + 1))) (q'.i (n + 2)).toNat (q'.i (n + 3)).toNat) [q'.h n] F ∧ (True → q'.h (n + 1) = F) ∧ cpNorms n [.one .sl] q') → K q' := by
  refine ⟨⟨_, m, H, s.l, s.bad, rfl, rfl, h⟩, fun q' g ⟨F, ⟨p', m', H1, bs, bad, H', e1, e2, hO, e3, hO', hv⟩, hF, hn, _⟩ => ?_⟩
  simp only [List.cons.injEq, Value.int.injEq, true_and, and_true] at e1 e2 e3
  obtain ⟨e1, em⟩ := e1
  subst e1 em e2
  obtain ⟨e4, e5⟩ := h.uniq hO
  subst e4 e5
  rw [← e3] at hO'
  have hn : -1 ≤ q'.i n ∧ 0 ≤ q'.i (n + 1) ∧ 0 ≤ q'.i (n + 2) ∧ 0 ≤ q'.i (n + 3) := hn
  rw [← hF trivial] at hv
  obtain ⟨hl, hr⟩ := hv.rd.at hn.1 hn.2.1 hn.2.2.1
  exact k q' g hO' ⟨hn.1, hn.2.1, hl, hr⟩
end
theorem Took.must {F : Hl} {x y l c : Int} {raw : List Int} (h : Took F x y l c raw) {a w : Int} (hw : 0 ≤ w) (ha : a + w ≤ 125) : ((x = -1 ∧ l = 0 ∨ 0 ≤ x ∧ 0 ≤ y ∧ cellBytes F x.toNat y.toNat (if l < w then l else w).toNat = true) ∧ 0 ≤ l ∧ (a + if l < w then l else w) ≤ 125) := by
  have hl := h.len
  refine ⟨h.rd.imp (fun ⟨h1, h2⟩ => ⟨h1, by rw [hl, h2]; rfl⟩) fun ⟨h1, h2⟩ => ⟨h1, h.ry, ?_⟩, by omega, by split <;> omega⟩
  unfold cellBytes
  rw [List.all_eq_true]
  intro j hj
  have hj : j < (if l < w then l else w).toNat := List.mem_range.1 hj
  have hjr : j < raw.length := by split at hj <;> omega
  rw [h2 j _ (List.getElem?_eq_getElem hjr)]
  rfl
theorem Took.cell {F : Hl} {x y l c : Int} {raw : List Int} (h : Took F x y l c raw) {j : Nat} (hj : j < raw.length) : valI (F.cell x.toNat (y.toNat + j)) = raw.getD j 0 := by
  rcases h.rd with ⟨_, h2⟩ | ⟨_, h2⟩
  · rw [h2] at hj; cases hj
  · rw [h2 j _ (List.getElem?_eq_getElem hj), List.getD_eq_getElem?_getD, List.getElem?_eq_getElem hj]; rfl
/-- What a copy leaves in cells that were noughts. -/
theorem cpyC_ev {w : Int} {q : Env} {a n h m1 m2 m3 : Nat} {c : Int} {raw : List Int} {old : Nat → E} (ht : Took (q.h h) (q.i m1) (q.i m2) (q.i m3) c raw) (hw : w = (n : Int)) (ho : ∀ j, j < n → iev q (old j) = 0) :
    (cpyC a n (.ite (.lt (.var m3) (.lit w)) (.var m3) (.lit w)) h (.var m1) (.var m2) old).map (CV.ev q) = bys (padN n raw) := by
  subst hw
  unfold cpyC bys padN
  rw [List.map_map, List.map_map]
  refine List.map_congr_left fun j hj => ?_
  have hj := List.mem_range.1 hj
  have hl := ht.len
  show Value.int .u8 (iev q (.ite _ _ _)) = .int .u8 _
  congr 1
  simp only [iev_ite, bT_lt, iev_lit, iev_add, iev_var]
  by_cases hr : j < raw.length
  · rw [if_pos (by split <;> omega), iev_hI]
    exact ht.cell hr
  · rw [if_neg (by split <;> omega), ho j hj, List.getD_eq_getElem?_getD, List.getElem?_eq_none (by omega)]; rfl
theorem cpyD_ev {w : Int} {q : Env} {n h m1 m2 m3 : Nat} {c : Int} {raw : List Int} {old : Nat → E} (ht : Took (q.h h) (q.i m1) (q.i m2) (q.i m3) c raw) (hw : w = (n : Int)) (ho : ∀ j, j < n → iev q (old j) = 0) :
    (cpyD n (.ite (.lt (.var m3) (.lit w)) (.var m3) (.lit w)) h (.var m1) (.var m2) old).map (CV.ev q) = bys (padN n raw) := by
  subst hw
  unfold cpyD bys padN
  rw [List.map_map, List.map_map]
  refine List.map_congr_left fun j hj => ?_
  have hj := List.mem_range.1 hj
  have hl := ht.len
  show Value.int .u8 (iev q (.ite _ _ _)) = .int .u8 _
  congr 1
  simp only [iev_ite, bT_lt, iev_lit, iev_var]
  by_cases hr : j < raw.length
  · rw [if_pos (by split <;> omega), iev_hI]
    exact ht.cell hr
  · rw [if_neg (by split <;> omega), ho j hj, List.getD_eq_getElem?_getD, List.getElem?_eq_none (by omega)]; rfl
/-- One cell of a row is set. -/
theorem loop_set (b : List Int) (u v : Value) : (loopRow b u).set 53 v = loopRow b v := by
  have e : ∀ u, loopRow b u = ([Value.int .i64 (vNum 6 (p0 b)), .int .u64 (vNum 1048576 (p1 b))] ++ bys (padN 32 (vRaw 32 (p2 b))) ++ [Value.int .i64 (vNum 255 (p3 b)), .bool (vFlag (p4 b)), .int .u64 (vNum 1099511627776 (p5 b))] ++ bys (padN 16 (vRaw 16 (p6 b)))) ++ u :: (List.replicate 6 (.int .u64 0) ++ List.replicate 32 (.int .u8 0) ++ [.int .i64 0] ++ List.replicate 32 (.int .u8 0)) := by
    intro u
    unfold loopRow
    simp only [List.append_assoc, List.cons_append, List.nil_append]
  have hl : ([Value.int .i64 (vNum 6 (p0 b)), .int .u64 (vNum 1048576 (p1 b))] ++ bys (padN 32 (vRaw 32 (p2 b))) ++ [Value.int .i64 (vNum 255 (p3 b)), .bool (vFlag (p4 b)), .int .u64 (vNum 1099511627776 (p5 b))] ++ bys (padN 16 (vRaw 16 (p6 b)))).length = 53 := by simp [bys, padN_len]
  rw [e u, e v, List.set_append_right _ _ (by omega), hl]
  rfl
theorem Took.must0 {F : Hl} {x y l c : Int} {raw : List Int} (h : Took F x y l c raw) {w : Int} (hw : 0 ≤ w) (ha : w ≤ 125) : ((x = -1 ∧ l = 0 ∨ 0 ≤ x ∧ 0 ≤ y ∧ cellBytes F x.toNat y.toNat (if l < w then l else w).toNat = true) ∧ 0 ≤ l ∧ (if l < w then l else w) ≤ w) := by
  obtain ⟨h1, h2, _⟩ := h.must (a := 0) hw (by omega)
  exact ⟨h1, h2, by split <;> omega⟩
theorem parM1_ev (q : Env) : parM1.map (CV.ev q) = (hrow q 300).set 53 (.slice (slP (q.i 446) 0) (q.i 355 + 1).toNat (q.i 447).toNat) := by kernel_rfl
theorem seg_sum (q : Env) : segI (hrow q 300) 60 32 = (List.range 32).map fun j => q.i (363 + j) := by kernel_rfl
theorem seg_code (q : Env) : segI (hrow q 300) 93 32 = (List.range 32).map fun j => q.i (396 + j) := by kernel_rfl
def loopL (b : List Int) : List Value := [Value.int .i64 (vNum 6 (p0 b)), .int .u64 (vNum 1048576 (p1 b))] ++ bys (padN 32 (vRaw 32 (p2 b))) ++ [.int .i64 (vNum 255 (p3 b)), .bool (vFlag (p4 b)), .int .u64 (vNum 1099511627776 (p5 b))] ++ bys (padN 16 (vRaw 16 (p6 b)))
theorem loopL_len (b : List Int) : (loopL b).length = 53 := by unfold loopL; simp [bys, padN_len]
theorem row_zero {q : Env} {b : List Int} {u : Value} (h : hrow q 300 = loopRow b u) : ∀ j, j < 32 → q.i (363 + j) = 0 ∧ q.i (396 + j) = 0 := by
  have a1 : segI (loopRow b u) 60 32 = List.replicate 32 0 := by
    have e : loopRow b u = (loopL b ++ [u] ++ List.replicate 6 (.int .u64 0)) ++ bys (List.replicate 32 0) ++ ([.int .i64 0] ++ List.replicate 32 (.int .u8 0)) := by
      unfold loopRow loopL; simp only [List.append_assoc]; rfl
    rw [e]; exact segI_mid (by simp [loopL_len]) (by simp)
  have a2 : segI (loopRow b u) 93 32 = List.replicate 32 0 := by
    have e : loopRow b u = (loopL b ++ [u] ++ List.replicate 6 (.int .u64 0) ++ List.replicate 32 (.int .u8 0) ++ [.int .i64 0]) ++ bys (List.replicate 32 0) ++ [] := by
      unfold loopRow loopL; simp only [List.append_assoc]; rfl
    rw [e]; exact segI_mid (by simp [loopL_len]) (by simp)
  rw [← h, seg_sum] at a1
  rw [← h, seg_code] at a2
  intro j hj
  have c1 := congrArg (fun l => l[j]?) a1
  have c2 := congrArg (fun l => l[j]?) a2
  simp only [List.getElem?_map, List.getElem?_range hj, Option.map_some, List.getElem?_replicate, if_pos hj, Option.some.injEq] at c1 c2
  exact ⟨c1, c2⟩
theorem par_lo (q : Env) : (ckCVs 300 ([Ck.int .i64, Ck.int .u64] ++ List.replicate 32 (Ck.int .u8) ++ [Ck.int .i64, Ck.bool, Ck.int .u64] ++ List.replicate 16 (Ck.int .u8) ++ [Ck.sl])).map (CV.ev q) = (hrow q 300).take 54 := by kernel_rfl
theorem loop_take (b : List Int) (u : Value) : (loopRow b u).take 54 = loopL b ++ [u] := by
  have e : loopRow b u = (loopL b ++ [u]) ++ (List.replicate 6 (.int .u64 0) ++ List.replicate 32 (.int .u8 0) ++ [.int .i64 0] ++ List.replicate 32 (.int .u8 0)) := by
    unfold loopRow loopL; simp only [List.append_assoc]
  have hl : (loopL b ++ [u]).length = 54 := by simp [loopL_len]
  rw [e, ← hl, List.take_left]
theorem zrow_ev (q : Env) : parZ.map (CV.ev q) = zrow := by kernel_rfl
theorem Took.ag {q q' : Env} {m h m1 m2 m3 m4 : Nat} {raw : List Int} (g : Agree m q q') (ht : Took (q.h h) (q.i m1) (q.i m2) (q.i m3) (q.i m4) raw) (h0 : h < m) (h1 : m1 < m) (h2 : m2 < m) (h3 : m3 < m) (h4 : m4 < m) : Took (q'.h h) (q'.i m1) (q'.i m2) (q'.i m3) (q'.i m4) raw := by
  rw [g.h h h0, g.i m1 h1, g.i m2 h2, g.i m3 h3, g.i m4 h4]; exact ht
theorem hk_norms {ρ : Env} (h : -1 ≤ ρ.i 53 ∧ 0 ≤ ρ.i 54 ∧ 0 ≤ ρ.i 55 ∧ 0 ≤ ρ.i 56) : ckNorms 0 hk2 ρ := ⟨trivial, trivial, trivial, trivial, trivial, trivial, trivial, trivial, trivial, trivial, trivial, trivial, trivial, trivial, trivial, trivial, trivial, trivial, trivial, trivial, trivial, trivial, trivial, trivial, trivial, trivial, trivial, trivial, trivial, trivial, trivial, trivial, trivial, trivial, trivial, trivial, trivial, trivial, trivial, trivial, trivial, trivial, trivial, trivial, trivial, trivial, trivial, trivial, trivial, trivial, trivial, trivial, trivial, h, trivial, trivial, trivial, trivial, trivial, trivial, trivial, trivial, trivial, trivial, trivial, trivial, trivial, trivial, trivial, trivial, trivial, trivial, trivial, trivial, trivial, trivial, trivial, trivial, trivial, trivial, trivial, trivial, trivial, trivial, trivial, trivial, trivial, trivial, trivial, trivial, trivial, trivial, trivial, trivial, trivial, trivial, trivial, trivial, trivial, trivial, trivial, trivial, trivial, trivial, trivial, trivial, trivial, trivial, trivial, trivial, trivial, trivial, trivial, trivial, trivial, trivial, trivial, trivial, trivial, trivial, trivial, trivial, trivial, trivial, trivial, trivial⟩
theorem zshape {v : Value} (hv : v = .tuple #[.agg zrow.toArray, .int .i64 2]) : ∃ ρ2, v = (cpTV 0 parseS.res).ev ρ2 ∧ cpNorms 0 parseS.res ρ2 := by
  subst hv
  exact ⟨⟨fun k => if k = 53 then -1 else if k = 128 then 2 else 0, fun _ => false, fun _ => .empty, fun _ => .tuple #[], fun _ => Hl.none⟩, by kernel_rfl, hk_norms ⟨Int.le_refl _, Int.le_refl _, Int.le_refl _, Int.le_refl _⟩, trivial, trivial⟩
/-- The numbers behind a header that was parsed. -/
def hdEnv (b : List Int) (x y l c : Int) : Env := ⟨fun k => if k < 53 then cI (hdRow b (.bool false)) k else if k = 53 then x else if k = 54 then y else if k = 55 then l else if k = 56 then c else if k < 128 then cI (hdRow b (.bool false)) (k - 3) else 0, fun k => cB (hdRow b (.bool false)) k, fun _ => .empty, fun _ => .tuple #[], fun _ => Hl.none⟩
theorem hdEnv_ev (b : List Int) (x y l c : Int) : (ckCVs 0 hk2).map (CV.ev (hdEnv b x y l c)) = hdRow b (.slice (slP x y) l.toNat c.toNat) := by kernel_rfl
open Classical in
theorem parseS_ok : parseS.OK Try.prog := by
  refine Spec.of_fn (Γ := epΓ) epΓ_ok ?_
  rintro xs Hs Rs hl1 hl2 ⟨u, b, R, rfl, rfl, hRd, hby, hlen⟩
  have e0 : Hs = [] := List.length_eq_zero_iff.1 hl1
  subst e0
  obtain ⟨x, y, c, rfl, hy, hR⟩ := id hRd
  refine ⟨eParW, envI [x, y, b.length, c] false [Hl.none, Hl.none, Hl.none, Hl.none, R], fun _ q => ∃ k : Nat, q.i 430 = k ∧ k ≤ hN b ∧ InP (q.h 431) (.pointer (slP (q.i 7) (q.i 8))) (pToks k (p8 b)).2 ∧ hrow q 300 = loopRow b (.slice (slP (q.i 353) (q.i 354)) (q.i 355).toNat (q.i 356).toNat) ∧ -1 ≤ q.i 353 ∧ q.i 354 = 0 ∧ q.i 355 = k ∧ 0 ≤ q.i 356 ∧ OwR (q.h 432) 26 tkd (.slice (slP (q.i 353) 0) (q.i 355).toNat (q.i 356).toNat) ((pToks k (p8 b)).1.map bys), fun _ q => (hN b - q.i 430).toNat, ?_, ⟨?_, ?_, ?_, ?_⟩, (fun _ h => nomatch h), ?_⟩
  · show [Value.slice (slP x y) ((b.length : Int)).toNat ((c : Int)).toNat] = _
    rw [Int.toNat_natCast, Int.toNat_natCast]
  · intro r hr ho; simp [eParW] at hr; subst hr; cases ho
  · intro r hr ho; simp [eParW] at hr; subst hr; exact ⟨R, by simp, Hl.le_refl _⟩
  · simp [eParW]
  · intro r hr; simp [eParW] at hr; subst hr; trivial
  · show Nd.holds _ _ _ eParNd
    generalize hρ : envI [x, y, b.length, c] false [Hl.none, Hl.none, Hl.none, Hl.none, R] = ρ
    have v0 : ρ.i 0 = x := by rw [← hρ]; rfl
    have v1 : ρ.i 1 = y := by rw [← hρ]; rfl
    have v2 : ρ.i 2 = b.length := by rw [← hρ]; rfl
    have v3 : ρ.i 3 = c := by rw [← hρ]; rfl
    have w4 : ρ.h 4 = R := by rw [← hρ]; rfl
    clear hρ
    unfold eParNd
    simp only [Nd.holds, X.pre, X.rel, X.n, Src.ok, Src.len, Src.vals, true_and, and_true, if_true, Nat.mul_one, Nat.add_zero, Nat.reduceAdd, List.length_cons, List.length_nil, bT_tt, bT_ff, bT_bvar, bT_not, bT_and, bT_or, bT_ite, bT_lt, bT_le, bT_eq, bT_beq, bT_seq, bT_hB, bT_his, bT_hby, bT_hism, bT_hks, iev_lit, iev_var, iev_add, iev_sub, iev_mul, iev_wrap, iev_ite, iev_hI, iev_hP, iev_hmlen, sev_ite, sev_slit, sev_sof, sev_svar, TV.ev, SV.ev, CV.ev, List.map_cons, List.map_nil, Res.hl, cpTV, Cp.sv, Ck.cv, cpSVs, Cp.len, Ck.len, newHs_zero, newHs_one, roots_ne, pg0, pr0, pg1, pr1, pg2, pr2, pg3, pr3, pg4, pr4, pg5, pr5, pc0, pc1, sc2, rcc0]
    intro q1 g1 _ q2 g2 _
    have G2 : Agree 5 ρ q2 := g1.trans (g2.mono (by omega))
    rw [G2.i 0 (by omega), G2.i 1 (by omega), G2.i 2 (by omega), G2.i 3 (by omega), G2.h 4 (by omega), v0, v1, v2, v3, w4, Int.toNat_natCast, Int.toNat_natCast]
    refine ⟨⟨_, b, R, rfl, rfl, hRd, hby, hlen⟩, fun q3 g3 ⟨F3, hp3, hF3, _⟩ => ?_⟩
    have h3 : InP (q3.h 7) (.pointer (slP (q3.i 7) (q3.i 8))) (p0 b) := by
      obtain ⟨u', b', R', e1, e2, hR', hO⟩ := hp3
      simp only [List.cons.injEq, and_true] at e1 e2
      subst e1 e2
      rw [hRd.uniq hR', hF3 trivial]; exact hO
    refine iNum h3 fun q4 g4 h4 v4' => ?_
    have h4 : InP (q4.h 9) _ (p1 b) := h4
    have v4' : q4.i 9 = vNum 6 (p0 b) := v4'
    rw [← g4.i 7 (by omega), ← g4.i 8 (by omega)] at h4
    refine iNum h4 fun q5 g5 h5 v5' => ?_
    have h5 : InP (q5.h 11) _ (p2 b) := h5
    have v5' : q5.i 11 = vNum 1048576 (p1 b) := v5'
    rw [← g5.i 7 (by omega), ← g5.i 8 (by omega)] at h5
    rw [← g5.i 9 (by omega)] at v4'
    refine iRaw h5 fun q6 g6 h6 t6 => ?_
    have h6 : InP (q6.h 13) _ (p3 b) := h6
    have t6 : Took (q6.h 14) (q6.i 13) (q6.i 14) (q6.i 15) (q6.i 16) (vRaw 32 (p2 b)) := t6
    rw [← g6.i 7 (by omega), ← g6.i 8 (by omega)] at h6
    rw [← g6.i 9 (by omega)] at v4'
    rw [← g6.i 11 (by omega)] at v5'
    refine ⟨t6.must (by omega) (by omega), ?_⟩
    refine iNum h6 fun q7 g7 h7 v7' => ?_
    have h7 : InP (q7.h 17) _ (p4 b) := h7
    have v7' : q7.i 17 = vNum 255 (p3 b) := v7'
    rw [← g7.i 7 (by omega), ← g7.i 8 (by omega)] at h7
    rw [← g7.i 9 (by omega)] at v4'
    rw [← g7.i 11 (by omega)] at v5'
    have t6 := t6.ag g7 (by omega) (by omega) (by omega) (by omega) (by omega)
    refine iFlag h7 fun q8 g8 h8 v8' => ?_
    have h8 : InP (q8.h 19) _ (p5 b) := h8
    have v8' : q8.b 19 = vFlag (p4 b) := v8'
    rw [← g8.i 7 (by omega), ← g8.i 8 (by omega)] at h8
    rw [← g8.i 9 (by omega)] at v4'
    rw [← g8.i 11 (by omega)] at v5'
    have t6 := t6.ag g8 (by omega) (by omega) (by omega) (by omega) (by omega)
    rw [← g8.i 17 (by omega)] at v7'
    refine iNum h8 fun q9 g9 h9 v9' => ?_
    have h9 : InP (q9.h 21) _ (p6 b) := h9
    have v9' : q9.i 21 = vNum 1099511627776 (p5 b) := v9'
    rw [← g9.i 7 (by omega), ← g9.i 8 (by omega)] at h9
    rw [← g9.i 9 (by omega)] at v4'
    rw [← g9.i 11 (by omega)] at v5'
    have t6 := t6.ag g9 (by omega) (by omega) (by omega) (by omega) (by omega)
    rw [← g9.i 17 (by omega)] at v7'
    rw [← g9.b 19 (by omega)] at v8'
    refine iRaw h9 fun q10 g10 h10 t10 => ?_
    have h10 : InP (q10.h 23) _ (p7 b) := h10
    have t10 : Took (q10.h 24) (q10.i 23) (q10.i 24) (q10.i 25) (q10.i 26) (vRaw 16 (p6 b)) := t10
    rw [← g10.i 7 (by omega), ← g10.i 8 (by omega)] at h10
    rw [← g10.i 9 (by omega)] at v4'
    rw [← g10.i 11 (by omega)] at v5'
    have t6 := t6.ag g10 (by omega) (by omega) (by omega) (by omega) (by omega)
    rw [← g10.i 17 (by omega)] at v7'
    rw [← g10.b 19 (by omega)] at v8'
    rw [← g10.i 21 (by omega)] at v9'
    refine ⟨t10.must (by omega) (by omega), ?_⟩
    refine iNum h10 fun q11 g11 h11 v11' => ?_
    have h11 : InP (q11.h 27) _ (p8 b) := h11
    have v11' : q11.i 27 = vNum 8 (p7 b) := v11'
    rw [← g11.i 7 (by omega), ← g11.i 8 (by omega)] at h11
    rw [← g11.i 9 (by omega)] at v4'
    rw [← g11.i 11 (by omega)] at v5'
    have t6 := t6.ag g11 (by omega) (by omega) (by omega) (by omega) (by omega)
    rw [← g11.i 17 (by omega)] at v7'
    rw [← g11.b 19 (by omega)] at v8'
    rw [← g11.i 21 (by omega)] at v9'
    have t10 := t10.ag g11 (by omega) (by omega) (by omega) (by omega) (by omega)
    have wi : ∀ {m : Int} {s : PS}, 0 ≤ m → m ≤ 9223372036854775807 → IntKind.i64.wrap (vNum m s) = vNum m s := fun {m s} h0 h1 => by have := vNum_in (s := s) h0; exact IntWalk.i64_in _ (by omega)
    have em : parM0.map (CV.ev q11) = loopRow b (.slice none 0 0) := by
      unfold parM0 loopRow
      simp only [List.map_append]
      rw [cpyC_ev (w := 32) (n := 32) (old := fun _ => .lit 0) t6 rfl (fun _ _ => rfl), cpyC_ev (w := 16) (n := 16) (old := fun _ => .lit 0) t10 rfl (fun _ _ => rfl)]
      have e1 : List.map (CV.ev q11) [.int .i64 (.wrap .i64 (.var 9)), .int .u64 (.var 11)] = [Value.int .i64 (vNum 6 (p0 b)), .int .u64 (vNum 1048576 (p1 b))] := by
        show [Value.int .i64 (IntKind.i64.wrap (q11.i 9)), .int .u64 (q11.i 11)] = _
        rw [v4', v5', wi (by omega) (by omega)]
      have e2 : List.map (CV.ev q11) [.int .i64 (.wrap .i64 (.var 17)), .bool (.bvar 19), .int .u64 (.var 21)] = [Value.int .i64 (vNum 255 (p3 b)), .bool (vFlag (p4 b)), .int .u64 (vNum 1099511627776 (p5 b))] := by
        show [Value.int .i64 (IntKind.i64.wrap (q11.i 17)), .bool (q11.b 19), .int .u64 (q11.i 21)] = _
        rw [v7', v8', v9', wi (by omega) (by omega)]
      rw [e1, e2]; rfl
    have hg : goodA 29 parA0 [(431, some 27), (432, none)] = true := by kernel_rfl
    have ag := assign_old (ρ := q11) hg
    have est : (SV.agg (ckCVs 300 hk2)).ev (assign q11 parA0 [(431, some 27), (432, none)]) = (SV.agg parM0).ev q11 := assign_ag (n0 := 29) hg (by kernel_rfl) (fun y hy => List.mem_append_right _ hy)
    have x0 : (assign q11 parA0 [(431, some 27), (432, none)]).i 430 = 0 := by kernel_rfl
    have x1 : (assign q11 parA0 [(431, some 27), (432, none)]).i 353 = -1 := by kernel_rfl
    have x2 : (assign q11 parA0 [(431, some 27), (432, none)]).i 354 = 0 := by kernel_rfl
    have x3 : (assign q11 parA0 [(431, some 27), (432, none)]).i 355 = 0 := by kernel_rfl
    have x4 : (assign q11 parA0 [(431, some 27), (432, none)]).i 356 = 0 := by kernel_rfl
    have x5 : (assign q11 parA0 [(431, some 27), (432, none)]).h 431 = q11.h 27 := by kernel_rfl
    have x6 : (assign q11 parA0 [(431, some 27), (432, none)]).h 432 = Hl.none := by kernel_rfl
    generalize assign q11 parA0 [(431, some 27), (432, none)] = qn at ag est x0 x1 x2 x3 x4 x5 x6 ⊢
    have est : hrow qn 300 = loopRow b (.slice none 0 0) := (List.toArray_inj (Value.agg.inj est)).trans em
    refine ⟨⟨0, x0, Nat.zero_le _, ?_, ?_, by omega, x2, x3, by omega, ?_⟩, fun q g ⟨k, ek, hk, hP, hrw, A0, y354, y355, C0, hO⟩ => ?_⟩
    · rw [x5, ag.i 7 (by omega), ag.i 8 (by omega)]; exact h11
    · rw [est, x1, x2, x3, x4]; rfl
    · rw [x1, x3, x4, x6]; exact OwR.nil _ _ _
    have hk8 : hN b ≤ 8 := by have := vNum_in (s := p7 b) (m := 8) (by omega); unfold hN; omega
    have v11'' : q.i 27 = hN b := by rw [g.i 27 (by omega), v11']; have := vNum_in (s := p7 b) (m := 8) (by omega); unfold hN; omega
    have hrl : (((pToks k (p8 b)).1.map bys).length : Int) = k := by rw [List.length_map, toks_len]
    refine ⟨fun hlt q20 g20 _ => ?_, fun hge => ?_⟩
    · rw [← g20.i 7 (by omega), ← g20.i 8 (by omega), ← g20.h 431 (by omega)] at hP
      refine iRaw hP fun q21 g21 h21 t21 => ?_
      have t21 : Took (q21.h 442) (q21.i 441) (q21.i 442) (q21.i 443) (q21.i 444) (vRaw 16 (pToks k (p8 b)).2) := t21
      refine ⟨t21.must0 (by omega) (by omega), fun q22 g22 _ => ?_⟩
      have t22 := t21.ag g22 (by omega) (by omega) (by omega) (by omega) (by omega)
      have G22 : Agree 440 q q22 := g20.trans ((g21.mono (by omega)).trans (g22.mono (by omega)))
      rw [G22.h 432 (by omega), G22.i 353 (by omega), G22.i 354 (by omega), G22.i 355 (by omega), G22.i 356 (by omega), y354, cpyD_ev (w := 16) (n := 16) (old := fun _ => .lit 0) t22 rfl (fun _ _ => rfl)]
      refine ⟨⟨⟨_, OwR.pre hO (by omega)⟩, by omega, by unfold maxLen; omega, by omega⟩, fun q23 g23 ⟨A1, C1, happ, _⟩ => ?_⟩
      have hO2 := OwR.app (row := bys (padN 16 (vRaw 16 (pToks k (p8 b)).2))) hO (by omega) (rowOK_tok (padN_len _ _)) happ
      have G23 : Agree 440 q q23 := G22.trans (g23.mono (by omega))
      have hg : goodA 29 parA1 [(431, some 441), (432, some 446)] = true := by kernel_rfl
      have ag := assign_old (ρ := q23) hg
      have est : (SV.agg (ckCVs 300 hk2)).ev (assign q23 parA1 [(431, some 441), (432, some 446)]) = (SV.agg parM1).ev q23 := assign_ag (n0 := 29) hg (by kernel_rfl) (fun y hy => List.mem_append_right _ hy)
      have x0 : (assign q23 parA1 [(431, some 441), (432, some 446)]).i 430 = IntKind.u64.wrap (q23.i 430 + 1) := by kernel_rfl
      have x1 : (assign q23 parA1 [(431, some 441), (432, some 446)]).i 353 = q23.i 446 := by kernel_rfl
      have x2 : (assign q23 parA1 [(431, some 441), (432, some 446)]).i 354 = 0 := by kernel_rfl
      have x3 : (assign q23 parA1 [(431, some 441), (432, some 446)]).i 355 = q23.i 355 + 1 := by kernel_rfl
      have x4 : (assign q23 parA1 [(431, some 441), (432, some 446)]).i 356 = q23.i 447 := by kernel_rfl
      have x5 : (assign q23 parA1 [(431, some 441), (432, some 446)]).h 431 = q23.h 441 := by kernel_rfl
      have x6 : (assign q23 parA1 [(431, some 441), (432, some 446)]).h 432 = q23.h 446 := by kernel_rfl
      generalize assign q23 parA1 [(431, some 441), (432, some 446)] = qn at ag est x0 x1 x2 x3 x4 x5 x6 ⊢
      have est : hrow qn 300 = parM1.map (CV.ev q23) := List.toArray_inj (Value.agg.inj est)
      have hr23 : hrow q23 300 = hrow q 300 := List.toArray_inj (Value.agg.inj (ev_ag (n := 300) (ks := hk2) G23 (Nat.le_of_ble_eq_true (by kernel_rfl))))
      rw [parM1_ev, hr23, hrw, loop_set] at est
      have e430 : IntKind.u64.wrap (q23.i 430 + 1) = ((k + 1 : Nat) : Int) := by rw [G23.i 430 (by omega), ek, wu64 (by omega) (by omega)]; omega
      have e355 : q23.i 355 + 1 = ((k + 1 : Nat) : Int) := by rw [G23.i 355 (by omega), y355]; omega
      rw [x0, x1, x2, x3, x4, x5, x6, e430, e355]
      refine ⟨⟨k + 1, rfl, by omega, ?_, ?_, A1, rfl, rfl, C1, ?_⟩, by omega⟩
      · rw [ag.i 7 (by omega), ag.i 8 (by omega), g23.i 7 (by omega), g23.i 8 (by omega), g22.i 7 (by omega), g22.i 8 (by omega), g23.h 441 (by omega), g22.h 441 (by omega), g21.i 7 (by omega), g21.i 8 (by omega)]
        exact h21
      · rw [est, e355]
      · show OwR _ _ _ _ (((pToks k (p8 b)).1 ++ [padN 16 (vRaw 16 (pToks k (p8 b)).2)]).map bys)
        rw [List.map_append, ← e355, G23.i 355 (by omega)]; exact hO2
    have hkN : k = hN b := by omega
    subst hkN
    have hP : InP (q.h 431) (.pointer (slP (q.i 7) (q.i 8))) (k0 b) := hP
    obtain ⟨q30, e30⟩ : ∃ q30, q30 = q := ⟨_, rfl⟩
    subst e30
    have h30 := hP
    have Gt30 : Agree 440 q30 q30 := Agree.refl _ _
    refine iNum h30 fun q31 g31 h31 v31' => ?_
    have h31 : InP (q31.h 440) _ (k1 b) := h31
    have v31' : q31.i 440 = vNum 1048576 (k0 b) := v31'
    have Gt31 : Agree 440 q30 q31 := Gt30.trans (g31.mono (by omega))
    rw [← g31.i 7 (by omega), ← g31.i 8 (by omega)] at h31
    refine iNum h31 fun q32 g32 h32 v32' => ?_
    have h32 : InP (q32.h 442) _ (k2 b) := h32
    have v32' : q32.i 442 = vNum 1048576 (k1 b) := v32'
    have Gt32 : Agree 440 q30 q32 := Gt31.trans (g32.mono (by omega))
    rw [← g32.i 7 (by omega), ← g32.i 8 (by omega)] at h32
    rw [← g32.i 440 (by omega)] at v31'
    refine iNum h32 fun q33 g33 h33 v33' => ?_
    have h33 : InP (q33.h 444) _ (k3 b) := h33
    have v33' : q33.i 444 = vNum 1048576 (k2 b) := v33'
    have Gt33 : Agree 440 q30 q33 := Gt32.trans (g33.mono (by omega))
    rw [← g33.i 7 (by omega), ← g33.i 8 (by omega)] at h33
    rw [← g33.i 440 (by omega)] at v31'
    rw [← g33.i 442 (by omega)] at v32'
    refine iNum h33 fun q34 g34 h34 v34' => ?_
    have h34 : InP (q34.h 446) _ (k4 b) := h34
    have v34' : q34.i 446 = vNum 1048576 (k3 b) := v34'
    have Gt34 : Agree 440 q30 q34 := Gt33.trans (g34.mono (by omega))
    rw [← g34.i 7 (by omega), ← g34.i 8 (by omega)] at h34
    rw [← g34.i 440 (by omega)] at v31'
    rw [← g34.i 442 (by omega)] at v32'
    rw [← g34.i 444 (by omega)] at v33'
    refine iNum h34 fun q35 g35 h35 v35' => ?_
    have h35 : InP (q35.h 448) _ (k5 b) := h35
    have v35' : q35.i 448 = vNum 1048576 (k4 b) := v35'
    have Gt35 : Agree 440 q30 q35 := Gt34.trans (g35.mono (by omega))
    rw [← g35.i 7 (by omega), ← g35.i 8 (by omega)] at h35
    rw [← g35.i 440 (by omega)] at v31'
    rw [← g35.i 442 (by omega)] at v32'
    rw [← g35.i 444 (by omega)] at v33'
    rw [← g35.i 446 (by omega)] at v34'
    refine iNum h35 fun q36 g36 h36 v36' => ?_
    have h36 : InP (q36.h 450) _ (k6 b) := h36
    have v36' : q36.i 450 = vNum 1048576 (k5 b) := v36'
    have Gt36 : Agree 440 q30 q36 := Gt35.trans (g36.mono (by omega))
    rw [← g36.i 7 (by omega), ← g36.i 8 (by omega)] at h36
    rw [← g36.i 440 (by omega)] at v31'
    rw [← g36.i 442 (by omega)] at v32'
    rw [← g36.i 444 (by omega)] at v33'
    rw [← g36.i 446 (by omega)] at v34'
    rw [← g36.i 448 (by omega)] at v35'
    refine iRaw h36 fun q37 g37 h37 t37 => ?_
    have h37 : InP (q37.h 452) _ (p15 b) := h37
    have t37 : Took (q37.h 453) (q37.i 452) (q37.i 453) (q37.i 454) (q37.i 455) (vRaw 32 (k6 b)) := t37
    have Gt37 : Agree 440 q30 q37 := Gt36.trans (g37.mono (by omega))
    rw [← g37.i 7 (by omega), ← g37.i 8 (by omega)] at h37
    rw [← g37.i 440 (by omega)] at v31'
    rw [← g37.i 442 (by omega)] at v32'
    rw [← g37.i 444 (by omega)] at v33'
    rw [← g37.i 446 (by omega)] at v34'
    rw [← g37.i 448 (by omega)] at v35'
    rw [← g37.i 450 (by omega)] at v36'
    refine ⟨t37.must (by omega) (by omega), ?_⟩
    refine iNum h37 fun q38 g38 h38 v38' => ?_
    have h38 : InP (q38.h 456) _ (p16 b) := h38
    have v38' : q38.i 456 = vNum 2064 (p15 b) := v38'
    have Gt38 : Agree 440 q30 q38 := Gt37.trans (g38.mono (by omega))
    rw [← g38.i 7 (by omega), ← g38.i 8 (by omega)] at h38
    rw [← g38.i 440 (by omega)] at v31'
    rw [← g38.i 442 (by omega)] at v32'
    rw [← g38.i 444 (by omega)] at v33'
    rw [← g38.i 446 (by omega)] at v34'
    rw [← g38.i 448 (by omega)] at v35'
    rw [← g38.i 450 (by omega)] at v36'
    have t37 := t37.ag g38 (by omega) (by omega) (by omega) (by omega) (by omega)
    refine iRaw h38 fun q39 g39 h39 t39 => ?_
    have h39 : InP (q39.h 458) _ (p17 b) := h39
    have t39 : Took (q39.h 459) (q39.i 458) (q39.i 459) (q39.i 460) (q39.i 461) (vRaw 32 (p16 b)) := t39
    have Gt39 : Agree 440 q30 q39 := Gt38.trans (g39.mono (by omega))
    rw [← g39.i 7 (by omega), ← g39.i 8 (by omega)] at h39
    rw [← g39.i 440 (by omega)] at v31'
    rw [← g39.i 442 (by omega)] at v32'
    rw [← g39.i 444 (by omega)] at v33'
    rw [← g39.i 446 (by omega)] at v34'
    rw [← g39.i 448 (by omega)] at v35'
    rw [← g39.i 450 (by omega)] at v36'
    have t37 := t37.ag g39 (by omega) (by omega) (by omega) (by omega) (by omega)
    rw [← g39.i 456 (by omega)] at v38'
    refine ⟨t39.must (by omega) (by omega), ?_⟩
    refine ⟨⟨_, _, (p17 b).l, (p17 b).bad, rfl, rfl, h39⟩, fun q40 g40 ⟨F, hp, _⟩ => ?_⟩
    have hov : q40.b 462 = (!(p17 b).bad && decide ((p17 b).l = [])) := by
      obtain ⟨p', R', bs', bad', e1, e2, hO', hv⟩ := hp
      simp only [List.cons.injEq, and_true] at e1 e2
      subst e1 e2
      obtain ⟨e3, e4⟩ := h39.uniq hO'
      subst e3 e4
      simpa [bev_bvar] using hv
    have Gt40 : Agree 440 q30 q40 := Gt39.trans (g40.mono (by omega))
    rw [← g40.i 440 (by omega)] at v31'
    rw [← g40.i 442 (by omega)] at v32'
    rw [← g40.i 444 (by omega)] at v33'
    rw [← g40.i 446 (by omega)] at v34'
    rw [← g40.i 448 (by omega)] at v35'
    rw [← g40.i 450 (by omega)] at v36'
    have t37 := t37.ag g40 (by omega) (by omega) (by omega) (by omega) (by omega)
    rw [← g40.i 456 (by omega)] at v38'
    have t39 := t39.ag g40 (by omega) (by omega) (by omega) (by omega) (by omega)
    have hr40 : hrow q40 300 = hrow q30 300 := List.toArray_inj (Value.agg.inj (ev_ag (n := 300) (ks := hk2) Gt40 (Nat.le_of_ble_eq_true (by kernel_rfl))))
    rw [← hr40] at hrw
    have hz := row_zero hrw
    rw [← Gt40.i 353 (by omega), ← Gt40.i 354 (by omega), ← Gt40.i 355 (by omega), ← Gt40.i 356 (by omega)] at hrw
    rw [← Gt40.i 353 (by omega)] at A0
    rw [← Gt40.i 354 (by omega)] at y354
    rw [← Gt40.i 355 (by omega)] at y355
    rw [← Gt40.i 356 (by omega)] at C0
    rw [← Gt40.h 432 (by omega), ← Gt40.i 353 (by omega), ← Gt40.i 355 (by omega), ← Gt40.i 356 (by omega)] at hO
    have efr : parF.map (CV.ev q40) = hdRow b (.slice (slP (q40.i 353) (q40.i 354)) (q40.i 355).toNat (q40.i 356).toNat) := by
      unfold parF
      simp only [List.map_append]
      rw [par_lo, hrw, loop_take, cpyC_ev (w := 32) (n := 32) (old := fun j => .var (363 + j)) t37 rfl (fun j hj => (hz j hj).1), cpyC_ev (w := 32) (n := 32) (old := fun j => .var (396 + j)) t39 rfl (fun j hj => (hz j hj).2)]
      have e1 : List.map (CV.ev q40) [.int .u64 (.var 440), .int .u64 (.var 442), .int .u64 (.var 444), .int .u64 (.var 446), .int .u64 (.var 448), .int .u64 (.var 450)] = [Value.int .u64 (vNum 1048576 (k0 b)), .int .u64 (vNum 1048576 (k1 b)), .int .u64 (vNum 1048576 (k2 b)), .int .u64 (vNum 1048576 (k3 b)), .int .u64 (vNum 1048576 (k4 b)), .int .u64 (vNum 1048576 (k5 b))] := by
        show [Value.int .u64 (q40.i 440), .int .u64 (q40.i 442), .int .u64 (q40.i 444), .int .u64 (q40.i 446), .int .u64 (q40.i 448), .int .u64 (q40.i 450)] = _
        rw [v31', v32', v33', v34', v35', v36']
      have e2 : List.map (CV.ev q40) [.int .i64 (.wrap .i64 (.var 456))] = [Value.int .i64 (vNum 2064 (p15 b))] := by
        show [Value.int .i64 (IntKind.i64.wrap (q40.i 456))] = _
        rw [v38', wi (by omega) (by omega)]
      rw [e1, e2]
      unfold loopL hdRow
      simp only [List.append_assoc]
    have his : IsHd (q40.h 432) (hdRow b (.slice (slP (q40.i 353) (q40.i 354)) (q40.i 355).toNat (q40.i 356).toNat)) (prH b) := by
      refine hd_is hby rfl trivial ?_
      rw [y354]; exact hO.rd
    have zp : ∀ {qq : Env} {mem : Mem}, (∀ R row h, IsHd R row h → h.Form → hdB h ≠ b) → postOf parseS [.slice (slP x y) b.length c] [] [R] qq mem (.tup [.agg parZ, .one (.int .i64 (.lit 2))]) := by
      intro qq mem hno _
      have ev : (TV.tup [SV.agg parZ, SV.one (CV.int IntKind.i64 (E.lit 2))]).ev qq = .tuple #[.agg zrow.toArray, .int .i64 2] := by
        show Value.tuple #[.agg (parZ.map (CV.ev qq)).toArray, .int .i64 2] = _
        rw [zrow_ev]
      exact ⟨[], [], rfl, rfl, zshape ev, _, b, R, rfl, rfl, hRd, Or.inr ⟨ev, hno⟩⟩
    have no1 : ¬ (q40.b 462 = true ∧ (prH b).Form) → ∀ R row h, IsHd R row h → h.Form → hdB h ≠ b := by
      rintro hn R' row' h' hx' hf' rfl
      obtain ⟨l1, l2, l3⟩ := lawB hx' hf'
      exact hn ⟨by rw [hov, l1, l2]; rfl, l3⟩
    rw [efr]
    refine ⟨fun hv => ⟨⟨_, _, _, rfl, rfl, his⟩, fun q41 g41 ⟨F4, hp4, _⟩ => ?_⟩, fun hv => zp (no1 fun hh => hv hh.1)⟩
    have hfv := form_res his hp4
    have hfv : q41.b 463 = decide (prH b).Form := by simpa [bev_bvar] using hfv
    rw [hfv, decide_eq_true_eq]
    refine ⟨fun hf => zp (no1 fun hh => hf hh.2), fun hf _ => ?_⟩
    have hbl : hdB (prH b) = b := by
      rw [hov] at hv
      simp only [Bool.and_eq_true, Bool.not_eq_true', decide_eq_true_eq] at hv
      exact lawA hby hv.1 hv.2
    have hag : parF.map (CV.ev q41) = parF.map (CV.ev q40) := CV.agreeL g41 parF (by kernel_rfl)
    rw [← g41.i 353 (by omega), ← g41.i 354 (by omega), ← g41.i 355 (by omega), ← g41.i 356 (by omega)] at efr his
    rw [← g41.h 432 (by omega)] at his
    have ev : (TV.tup [SV.agg parF, SV.one (CV.int IntKind.i64 (E.lit 0))]).ev q41 = .tuple #[.agg (hdRow b (.slice (slP (q41.i 353) (q41.i 354)) (q41.i 355).toNat (q41.i 356).toNat)).toArray, .int .i64 0] := by
      show Value.tuple #[.agg (parF.map (CV.ev q41)).toArray, .int .i64 0] = _
      rw [hag, efr]
    refine ⟨[], [6], rfl, rfl, ⟨hdEnv b (q41.i 353) (q41.i 354) (q41.i 355) (q41.i 356), ?_, hk_norms ⟨by show -1 ≤ q41.i 353; rw [g41.i 353 (by omega)]; exact A0, by show 0 ≤ q41.i 354; rw [g41.i 354 (by omega)]; omega, by show 0 ≤ q41.i 355; rw [g41.i 355 (by omega)]; omega, by show 0 ≤ q41.i 356; rw [g41.i 356 (by omega)]; exact C0⟩, trivial, trivial⟩, _, b, R, rfl, rfl, hRd, Or.inl ⟨_, prH b, ev, ?_, hf, hbl⟩⟩
    · rw [ev, ← hdEnv_ev]; kernel_rfl
    · show IsHd (hls [q41.h 432]) _ _
      rw [hls_one]; exact his
end Go.Proofs.Ytkdllpialpfopaa
