/- Layer 7: Crash, as a contract. Condition: few sectors are loose. -/
import Derived.Test.YtdohcabnaihaoaaDskH
set_option linter.unusedSimpArgs false
set_option linter.unusedVariables false
set_option linter.constructorNameAsVariable false
namespace Go.Proofs.Ytdohcabnaihaoaa
open Go Go.Sx

def fateAt (fate : List Int) (i : Nat) : Int := if fate = [] then 0 else fate.getD (i % fate.length) 0
def wasOf (loose : List (Int × List Int)) (k : Int) : List Int := match loose.find? fun p => p.1 == k with
  | some p => p.2
  | none => []
def secOf (now : List Int) (k : Int) : List Int := (now.drop (64 * k.toNat)).take 64
/-- What stands on a disk when the first i of the loose sectors are torn. -/
def crashN (loose : List (Int × List Int)) (fate now ks : List Int) : Nat → List Int
  | 0 => now
  | i + 1 => splice (crashN loose fate now ks i) (64 * (ks.getD i 0).toNat) (tornI (wasOf loose (ks.getD i 0)) (secOf (crashN loose fate now ks i) (ks.getD i 0)) (fateAt fate i))
def crashD (D : DM) (fate : List Int) : DM := ⟨D.n, crashN D.loose fate D.now (sortK (D.loose.map (·.1))) D.loose.length, [], -1, false⟩
theorem crashN_length {D : DM} (h : D.ok) (fate ks : List Int) (hk : ∀ k ∈ ks, 0 ≤ k ∧ k < D.n) : ∀ i, i ≤ ks.length → (crashN D.loose fate D.now ks i).length = 64 * D.n
  | 0, _ => h.now
  | i + 1, hi => by
    have ih := crashN_length h fate ks hk i (by omega)
    have hm : ks.getD i 0 ∈ ks := by
      rw [List.getD_eq_getElem?_getD, List.getElem?_eq_getElem (by omega), Option.getD_some]
      exact List.getElem_mem _
    have hb := hk _ hm
    unfold crashN
    rw [splice_length (by rw [tornI_length, ih]; omega), ih]
theorem crashD_ok {D : DM} (h : D.ok) (fate : List Int) : (crashD D fate).ok := by
  refine ⟨crashN_length h fate _ (fun k hk => ?_) _ (by rw [sortK_length, List.length_map]; exact Nat.le_refl _), h.n, by show (-1 : Int) ≤ -1; omega, by show (-1 : Int) ≤ _; omega, fun p hp => by cases hp⟩
  obtain ⟨p, hp, rfl⟩ := List.mem_map.1 (sortK_mem.1 hk)
  exact (h.loose p hp).2
/-- A row of integers that may be read. -/
theorem ownI_at {F : Hl} {e : TypeId} {x y l c : Int} {n : Nat} {ks : List Int} (h : OwnsH F e 1 (.slice (slP x y) l.toNat c.toNat) n (ks.map (Value.int .i64))) (hx : -1 ≤ x) (hy : 0 ≤ y) (hl : 0 ≤ l) : l = n ∧ n = ks.length ∧ ∀ j : Nat, j < n → 0 ≤ x ∧ F.cell x.toNat (y.toNat + j) = some (.int .i64 (ks.getD j 0)) := by
  obtain ⟨hlen, h⟩ := h
  rw [List.length_map, Nat.mul_one] at hlen
  rcases h with ⟨h, hn⟩ | ⟨g, cap, cur, h, hg, hle, hm, hs, ht⟩
  · simp only [Value.slice.injEq] at h
    exact ⟨by omega, hlen.symm, fun j hj => by omega⟩
  · simp only [Value.slice.injEq] at h
    obtain ⟨h1, h2, h3⟩ := h
    refine ⟨by omega, hlen.symm, fun j hj => ?_⟩
    have hx0 : 0 ≤ x := by
      rcases Int.lt_or_le x 0 with h | h
      · rw [show x = -1 by omega, slP_nil] at h1; cases h1
      · exact h
    rw [slP_pos hx0] at h1
    simp only [Option.some.injEq, Addr.mk.injEq, and_true] at h1
    obtain ⟨rfl, h1⟩ := h1
    refine ⟨hx0, ?_⟩
    unfold Hl.cell
    rw [hg, h1, Nat.zero_add]
    have : cur.toList[j]? = some (.int .i64 (ks.getD j 0)) := by
      have e : (ks.map (Value.int .i64))[j]? = some (.int .i64 (ks.getD j 0)) := by
        rw [List.getElem?_map, List.getElem?_eq_getElem (by omega), List.getD_eq_getElem?_getD, List.getElem?_eq_getElem (by omega)]; rfl
      rw [← ht, List.getElem?_take, if_pos (by omega)] at e
      exact e
    simpa using this
theorem mapGo_was {loose : List (Int × List Int)} {k : Int} : ∀ (n : Nat), (∃ p ∈ loose, p.1 = k) → ∃ j, mapGo k (lv loose) n = some (j, .agg (bys (wasOf loose k)).toArray) := by
  induction loose with
  | nil => rintro n ⟨p, hp, _⟩; cases hp
  | cons p l ih =>
    rintro n hex
    show ∃ j, (if k = p.1 then some (n, Value.agg (bys p.2).toArray) else mapGo k (lv l) (n + 1)) = _
    by_cases hk : k = p.1
    · subst hk
      rw [if_pos rfl]
      exact ⟨n, by simp [wasOf]⟩
    · rw [if_neg hk]
      obtain ⟨q, hq, e⟩ := hex
      have hq' : q ∈ l := by
        rcases List.mem_cons.1 hq with rfl | h
        · exact absurd e.symm hk
        · exact h
      obtain ⟨j, hj⟩ := ih (n + 1) ⟨q, hq', e⟩
      refine ⟨j, by rw [hj]; simp [wasOf, show (p.1 == k) = false by simpa using fun e => hk e.symm]⟩
theorem wasOf_length {D : DM} (h : D.ok) {k : Int} (hex : ∃ p ∈ D.loose, p.1 = k) : (wasOf D.loose k).length = 64 := by
  unfold wasOf
  split
  · rename_i p hp
    exact (h.loose p (List.mem_of_find?_eq_some hp)).1
  · rename_i hn
    obtain ⟨p, hp, e⟩ := hex
    have := List.find?_eq_none.1 hn p hp
    simp [e] at this
def crashInv (D : DM) (fate : List Int) (s : Nat) (j : Nat) (q : Env) : Prop := match j with
  | 0 => ∃ i : Nat, q.i 30 = i ∧ i ≤ D.loose.length ∧ q.h 31 = dNow s (crashN D.loose fate D.now (sortK (D.loose.map (·.1))) i)
  | _ => q.i 33 = fateAt fate (q.i 30).toNat
def crashΓ : List Sx.Spec := [sortedS, tornS]
theorem crashΓ_ok : ∀ t ∈ crashΓ, t.OK Try.prog := by
  intro t ht
  simp only [crashΓ, List.mem_cons, List.mem_nil_iff, or_false] at ht
  rcases ht with rfl | rfl
  · exact sortedS_ok
  · exact tornS_ok
def crashS : Sx.Spec where
  fn := 15
  own := [.arg 0]
  rd := [1]
  res := []
  pre := fun xs Hs Rs => ∃ p u bs H R D, xs = [p, u] ∧ Hs = [H] ∧ Rs = [R] ∧ DiskAt H p D ∧ RdW R u bs ∧ (∀ b ∈ bs, 0 ≤ b ∧ b < 256) ∧ D.loose.length ≤ 1000000
  post := fun xs Hs Rs v Hs' F => ∃ p u bs H R D H', xs = [p, u] ∧ Hs = [H] ∧ Rs = [R] ∧ DiskAt H p D ∧ RdW R u bs ∧ Hs' = [H'] ∧ DiskAt H' p (crashD D bs)
def crashNd : Nd := .ext (.alloc 16) (.and (.pre (.call 0 17 [.sv (.one (.clo 35 (.var 16)))] [] [.blk 16 [.map (.var 10)] 49, .hp 14 [] [.var 10] []])) (.ext (.call 0 17 [.sv (.one (.clo 35 (.var 16)))] [] [.blk 16 [.map (.var 10)] 49, .hp 14 [] [.var 10] []]) (.and (.e (.le (.lit 0) (.var 19))) (.and (.inv 0 [⟨30, 0, .int .i64 (.lit 0)⟩] [(31, some 13)]) (.havoc 0 0 21 (.and (.imp (.lt (.var 30) (.var 19)) (.and (.e (.le (.lit 0) (.var 17))) (.and (.e (.le (.lit 0) (.var 18))) (.and (.e (.le (.lit 0) (.var 30))) (.and (.e (.his 17 (.var 17) (.add (.var 18) (.var 30)) 0 (.int .i64))) (.and (.and (.e (.le (.lit 0) (.var 3))) (.and (.imp (.lt (.lit 0) (.var 3)) (.and (.e (.le (.lit 0) (.var 1))) (.and (.e (.le (.lit 0) (.var 2))) (.and (.e (.le (.lit 0) (.rem (.var 30) (.var 3)))) (.and (.e (.lt (.rem (.var 30) (.var 3)) (.var 3))) (.and (.e (.his 15 (.var 1) (.add (.var 2) (.rem (.var 30) (.var 3))) 0 (.int .u8))) (.inv 1 [⟨33, 0, .int .i64 (.hI 15 (.var 1) (.add (.var 2) (.rem (.var 30) (.var 3))) 0)⟩] []))))))) (.imp (.not (.lt (.lit 0) (.var 3))) (.inv 1 [⟨33, 0, .int .i64 (.lit 0)⟩] [])))) (.havoc 1 1 32 (.and (.e (.le (.lit 0) (.var 6))) (.and (.e (.le (.lit 0) (.var 7))) (.and (.e (.le (.lit 0) (.hI 17 (.var 17) (.add (.var 18) (.var 30)) 0))) (.and (.e (.lt (.hI 17 (.var 17) (.add (.var 18) (.var 30)) 0) (.var 8))) (.and (.e (.hby 31 (.var 6) (.add (.var 7) (.mul (.hI 17 (.var 17) (.add (.var 18) (.var 30)) 0) (.lit 64))) (.lit 64))) (.and (.pre (.mget 34 14 (.var 10) (.int .i64) (.int .i64 (.hI 17 (.var 17) (.add (.var 18) (.var 30)) 0)) (.agg (List.replicate 64 (CV.int .u8 (.lit 0)))) (List.replicate 64 (Ck.int .u8)) true)) (.ext (.mget 34 14 (.var 10) (.int .i64) (.int .i64 (.hI 17 (.var 17) (.add (.var 18) (.var 30)) 0)) (.agg (List.replicate 64 (CV.int .u8 (.lit 0)))) (List.replicate 64 (Ck.int .u8)) true) (.and (.pre (.call 1 99 [.sv (.agg (ckCVs 34 (List.replicate 64 (Ck.int .u8)))), .sv (.agg (romCells 31 (.var 6) (.add (.var 7) (.mul (.hI 17 (.var 17) (.add (.var 18) (.var 30)) 0) (.lit 64))) 0 (List.replicate 64 (Kd.int .u8)))), .sv (.one (.int .u8 (.var 33)))] [] [])) (.ext (.call 1 99 [.sv (.agg (ckCVs 34 (List.replicate 64 (Ck.int .u8)))), .sv (.agg (romCells 31 (.var 6) (.add (.var 7) (.mul (.hI 17 (.var 17) (.add (.var 18) (.var 30)) 0) (.lit 64))) 0 (List.replicate 64 (Kd.int .u8)))), .sv (.one (.int .u8 (.var 33)))] [] []) (.and (.pre (.put 163 31 (.var 6) (.add (.var 7) (.mul (.hI 17 (.var 17) (.add (.var 18) (.var 30)) 0) (.lit 64))) (ckCVs 99 (List.replicate 64 (Ck.int .u8))))) (.ext (.put 163 31 (.var 6) (.add (.var 7) (.mul (.hI 17 (.var 17) (.add (.var 18) (.var 30)) 0) (.lit 64))) (ckCVs 99 (List.replicate 64 (Ck.int .u8)))) (.back 0 0 [⟨30, 0, .int .i64 (.wrap .i64 (.add (.var 30) (.lit 1)))⟩] [(31, some 163)]))))))))))))))))))) (.imp (.not (.lt (.var 30) (.var 19))) (.and (.pre (.mclr 32 14 (.var 10))) (.ext (.mclr 32 14 (.var 10)) (.post [.blk 0 [.sl (.var 6) (.var 7) (.var 8) (.var 9), .map (.var 10), .int .i64 (.lit (-1)), .bool .ff] 51, .hp 31 [] [.var 6] [], .hp 32 [14] [.var 10] [], .ro 15 [.var 1] false, .dead, .hp 17 [] [.var 17] []] (.tup [])))))))))))
def crashW : Walk Try.prog crashΓ crashS.fn where
  Λ := fun p => if lp p then some ⟨0, [(14, TI .i64 (.var 30))], [(1, .hp 31 [] [.var 6] [])], 32⟩ else
    if cutAt p [15, 0,1,0,0,1,1,0,0,1,1,0] then some ⟨1, [(6, TI .u8 (.var 33))], [], 34⟩ else none
  args := [TP (.var 0) (.lit 0), .sv (.one (.sl (.var 1) (.var 2) (.var 3) (.var 4)))]
  mem := dMem ++ [.ro 15 [.var 1] false]
  nv := 16
  nd := crashNd
  ok := by kernel_rfl
theorem kg0 : crashΓ[0]? = some sortedS := rfl
theorem kg1 : crashΓ[1]? = some tornS := rfl
theorem kr0 : sortedS.res = [.one .sl] := rfl
theorem kr1 : tornS.res = [.agg cell64] := rfl
theorem kc0 : (cpRoots 0 [Cp.one .sl] ≠ []) = True := by simp [cpRoots, Cp.roots, Ck.root]
theorem normsW_bytes (q : Env) : ∀ (m n : Nat), ckNormsW n (List.replicate m (Ck.int .u8)) q
  | 0, _ => trivial
  | m + 1, n => ⟨trivial, normsW_bytes q m (n + 1)⟩
theorem torn_pre {was now : List Int} (h1 : was.length = 64) (h2 : now.length = 64) {k : Int} (k0 : 0 ≤ k ∧ k < 256) : tornS.pre [.agg (bys was).toArray, .agg (bys now).toArray, .int .u8 k] [] [] := by
  obtain ⟨a, _, _, ea⟩ := row_rep cell64 0 (bys was) ⟨fun _ => 0, fun _ => false, fun _ => .empty, fun _ => .tuple #[], fun _ => Hl.none⟩ (rowOK_bys 64 _ h1)
  obtain ⟨b, gb, _, eb⟩ := row_rep cell64 64 (bys now) a (rowOK_bys 64 _ h2)
  obtain ⟨c, gc, _, ec⟩ := row_rep [.int .u8] 128 [.int .u8 k] b ⟨by simp [valIs, kdOf], trivial⟩
  have gac : Agree 64 a c := gb.trans (gc.mono (by omega))
  have e1 : (ckCVs 0 cell64).map (CV.ev c) = bys was := by rw [CV.agreeL gac _ (ckCVs_upto cell64 0)]; exact ea
  have e2 : (ckCVs 64 cell64).map (CV.ev c) = bys now := by rw [CV.agreeL gc _ (ckCVs_upto cell64 64)]; exact eb
  refine ⟨⟨c, ⟨normsW_bytes c 64 0, normsW_bytes c 64 64, trivial, trivial⟩, ?_⟩, k0⟩
  show [Value.agg (bys was).toArray, Value.agg (bys now).toArray, Value.int .u8 k] = [Value.agg ((ckCVs 0 cell64).map (CV.ev c)).toArray, Value.agg ((ckCVs 64 cell64).map (CV.ev c)).toArray, CV.ev c (.int .u8 (.var 128))]
  rw [e1, e2]
  have ec : [CV.ev c (.int .u8 (.var 128))] = [Value.int .u8 k] := ec
  rw [List.cons.injEq] at ec
  rw [ec.1]
theorem fateAt_range {bs : List Int} (hb : ∀ b ∈ bs, 0 ≤ b ∧ b < 256) (i : Nat) : 0 ≤ fateAt bs i ∧ fateAt bs i < 256 := by
  unfold fateAt
  split
  · omega
  · rename_i h
    have hl : 0 < bs.length := List.length_pos_iff.2 h
    have hm := Nat.mod_lt i hl
    rw [List.getD_eq_getElem?_getD, List.getElem?_eq_getElem hm, Option.getD_some]
    exact hb _ (List.getElem_mem _)
theorem sec_cell {now : List Int} (s : Nat) (key : Int) : ∀ j z, (secOf now key)[j]? = some z → (dNow s now).cell s (64 * key.toNat + j) = some (.int .u8 z) := by
  intro j z hz
  unfold dNow
  rw [Hl.one_cell, List.getElem?_toArray, bys_get]
  unfold secOf at hz
  rw [List.getElem?_take] at hz
  split at hz
  · rw [List.getElem?_drop] at hz
    rw [hz]; rfl
  · cases hz
theorem secOf_length {now : List Int} {n : Nat} (hn : now.length = 64 * n) {key : Int} (h0 : 0 ≤ key) (h1 : key < n) : (secOf now key).length = 64 := by
  unfold secOf
  rw [List.length_take, List.length_drop, hn]; omega
set_option maxRecDepth 20000 in
theorem crashS_ok : crashS.OK Try.prog := by
  refine Spec.of_fn crashΓ_ok ?_
  rintro xs Hs Rs hl1 hl2 ⟨p, u, bs, H, R, D, rfl, rfl, rfl, ⟨a, s, m, es, clock, rfl, h⟩, ⟨x, y, cp, rfl, hy, hR⟩, hb, hL⟩
  refine ⟨crashW, dEnv a s m D [x, y, bs.length, cp, 0] es clock R, crashInv D bs s, fun _ q => (D.loose.length - q.i 30).toNat, ?_, dEntry2 h _ rfl _ _, (fun _ h => nomatch h), ?_⟩
  · show [Value.pointer (slP (a : Int) 0), Value.slice (slP x y) ((bs.length : Int)).toNat ((cp : Int)).toNat] = _
    rw [dArg, Int.toNat_natCast, Int.toNat_natCast]
  · show Nd.holds _ _ _ crashNd
    have hρ0 : ∃ ρ, ρ = dEnv a s m D [x, y, bs.length, cp, 0] es clock R := ⟨_, rfl⟩
    obtain ⟨ρ, hρ⟩ := hρ0
    rw [← hρ]
    have v0 : ρ.i 0 = a := by rw [hρ]; rfl
    have v1 : ρ.i 1 = x := by rw [hρ]; rfl
    have v2 : ρ.i 2 = y := by rw [hρ]; rfl
    have v3 : ρ.i 3 = bs.length := by rw [hρ]; rfl
    have v6 : ρ.i 6 = s := by rw [hρ]; rfl
    have v7 : ρ.i 7 = 0 := by rw [hρ]; rfl
    have v8 : ρ.i 8 = D.n := by rw [hρ]; rfl
    have v10 : ρ.i 10 = m := by rw [hρ]; rfl
    have vh : ρ.h 13 = dNow s D.now := by rw [hρ]; rfl
    have vm : ρ.h 14 = Hl.one m (.map es clock) := by rw [hρ]; rfl
    have vr : ρ.h 15 = R := by rw [hρ]; rfl
    have hmem : (Hl.one m (.map es clock)) m = some (.map es clock) := Hl.one_self _ _
    have hlv : (lv D.loose).map (·.1) = D.loose.map (·.1) := by unfold lv; rw [List.map_map]; rfl
    unfold crashNd
    simp only [Nd.holds, X.pre, X.rel, X.n, Src.ok, Src.len, Src.vals, true_and, and_true, if_true, Nat.mul_one, Nat.add_zero, Nat.reduceAdd, List.length_cons, List.length_nil, bT_tt, bT_ff, bT_bvar, bT_not, bT_and, bT_or, bT_ite, bT_lt, bT_le, bT_eq, bT_beq, bT_seq, bT_hB, bT_his, bT_hby, bT_hism, bT_hks, iev_lit, iev_var, iev_add, iev_sub, iev_mul, iev_wrap, iev_ite, iev_hI, iev_hP, iev_hmlen, sev_ite, sev_slit, sev_sof, sev_svar, TV.ev, SV.ev, CV.ev, List.map_cons, List.map_nil, Res.hl, cpTV, Cp.sv, Ck.cv, cpSVs, Cp.len, Ck.len, newHs_zero, newHs_one, roots_ne, kg0, kg1, kr0, kr1, iev_rem]
    intro q1 g1 ha1
    have hx16 : 0 ≤ q1.i 16 := by first | exact ha1 | exact ha1.1 | omega
    have e10 : q1.i 10 = m := by rw [g1.i 10 (by omega), v10]
    have e14 : q1.h 14 = Hl.one m (.map es clock) := by rw [g1.h 14 (by omega), vm]
    have ecell : ∀ T, (Hl.one (q1.i 16).toNat (Obj.cells #[Value.map (if q1.i 10 = -1 then none else some (q1.i 10).toNat)] T)).cell (q1.i 16).toNat 0 = some (.map (some m)) := by
      intro T
      rw [Hl.one_cell, e10, if_neg (by omega), Int.toNat_natCast]; rfl
    refine ⟨⟨(q1.i 16).toNat, m, es, clock, lv D.loose, _, _, by rw [slP_pos hx16]; rfl, rfl, ecell _, by rw [e14]; exact hmem, h.map, h.st, fun p hp => ?_, by rw [lv_length]; exact hL⟩, fun q2 g2 ⟨F, ⟨x', m', es', clock', l', R1, R2, hxx, hRR, hc', hm', hM', hO⟩, hF, hn⟩ => ?_⟩
    · unfold lv at hp
      obtain ⟨r, hr, rfl⟩ := List.mem_map.1 hp
      have := (h.ok.loose r hr).2
      have := h.ok.n
      exact ⟨by show _ ≤ r.1; omega, by show r.1 ≤ _; omega⟩
    cases hRR
    rw [slP_pos hx16] at hxx
    simp only [List.cons.injEq, Value.func.injEq, List.toArray_inj, Array.mk.injEq, Value.pointer.injEq, Option.some.injEq, Addr.mk.injEq, and_true, true_and] at hxx
    have hxx : (q1.i 16).toNat = x' := by first | exact hxx | exact hxx.1
    subst hxx
    have hc' := (ecell _).symm.trans hc'
    simp only [Option.some.injEq, Value.map.injEq] at hc'
    subst hc'
    rw [e14, hmem] at hm'
    simp only [Option.some.injEq, Obj.map.injEq] at hm'
    obtain ⟨rfl, rfl⟩ := hm'
    rw [MapIs.inj hM' h.map, lv_length, hlv] at hO
    have hF : q2.h 17 = F := hF (by rw [kc0]; trivial)
    subst hF
    have hn : -1 ≤ q2.i 17 ∧ 0 ≤ q2.i 18 ∧ 0 ≤ q2.i 19 ∧ 0 ≤ q2.i 20 := hn.1
    obtain ⟨n17, n18, n19, n20⟩ := hn
    obtain ⟨c19, cL, hK⟩ := ownI_at hO n17 n18 n19
    obtain ⟨ks, hks⟩ : ∃ ks, ks = sortK (D.loose.map (·.1)) := ⟨_, rfl⟩
    rw [← hks] at hO cL hK
    have hkex : ∀ k ∈ ks, ∃ p ∈ D.loose, p.1 = k := by
      intro k hk
      rw [hks] at hk
      obtain ⟨p, hp, e⟩ := List.mem_map.1 (sortK_mem.1 hk)
      exact ⟨p, hp, e⟩
    have hkb : ∀ k ∈ ks, 0 ≤ k ∧ k < D.n := by
      intro k hk
      obtain ⟨p, hp, rfl⟩ := hkex k hk
      exact (h.ok.loose p hp).2
    have G2 : Agree 16 ρ q2 := g1.trans (g2.mono (by omega))
    refine ⟨n19, ⟨0, rfl, Nat.zero_le _, ?_⟩, fun q3 g3 ⟨i, hi, hiL, h31⟩ => ?_⟩
    · show q2.h 13 = _
      rw [G2.h 13 (by omega), vh]; rfl
    have G3 : Agree 16 ρ q3 := G2.trans (g3.mono (by omega))
    have d19 : q3.i 19 = D.loose.length := by rw [g3.i 19 (by omega), c19]
    rw [← hks] at h31
    refine ⟨fun hlt => ?_, fun hge => ?_⟩
    · have hlt' : i < D.loose.length := by omega
      obtain ⟨hx0, hcell⟩ := hK i hlt'
      obtain ⟨key, hkey⟩ : ∃ k, k = ks.getD i 0 := ⟨_, rfl⟩
      rw [← hkey] at hcell
      have hmk : key ∈ ks := by
        rw [hkey, List.getD_eq_getElem?_getD, List.getElem?_eq_getElem (by omega), Option.getD_some]
        exact List.getElem_mem _
      obtain ⟨k0, k1⟩ := hkb key hmk
      have hw64 := wasOf_length h.ok (hkex key hmk)
      have hnl : (crashN D.loose bs D.now ks i).length = 64 * D.n := crashN_length h.ok bs ks hkb i (by omega)
      obtain ⟨now, hnow⟩ : ∃ now, now = crashN D.loose bs D.now ks i := ⟨_, rfl⟩
      rw [← hnow] at hnl h31
      have hs64 := secOf_length hnl k0 k1
      have hc17 : ∀ q, Agree 21 q3 q → q.i 30 = i → (q.h 17).cell (q.i 17).toNat (q.i 18 + q.i 30).toNat = some (.int .i64 key) := by
        intro q g e
        rw [g.h 17 (by omega), g.i 17 (by omega), g.i 18 (by omega), g3.h 17 (by omega), g3.i 17 (by omega), g3.i 18 (by omega), e, show (q2.i 18 + i).toNat = (q2.i 18).toNat + i by omega]
        exact hcell
      have ht : (i : Int).tmod (bs.length : Int) = ((i % bs.length : Nat) : Int) := rfl
      refine ⟨by rw [g3.i 17 (by omega)]; omega, by rw [g3.i 18 (by omega)]; omega, by omega, by rw [hc17 q3 (Agree.refl _ _) hi]; rfl, ⟨by rw [G3.i 3 (by omega), v3]; omega, fun h3 => ?_, fun h3 => ?_⟩, fun q4 g4 h33 => ?_⟩
      · rw [G3.i 3 (by omega), v3] at h3
        have hne : bs ≠ [] := by rintro rfl; simp at h3
        have hxr : 0 ≤ x ∧ ∀ j z, bs[j]? = some z → R.cell x.toNat (y.toNat + j) = some (.int .u8 z) := by
          rcases hR with h | h
          · exact absurd h hne
          · exact h
        have hl : 0 < bs.length := by omega
        have hm := Nat.mod_lt i hl
        have hcR : (q3.h 15).cell (q3.i 1).toNat (q3.i 2 + (q3.i 30).tmod (q3.i 3)).toNat = some (.int .u8 bs[i % bs.length]) := by
          rw [G3.h 15 (by omega), G3.i 1 (by omega), G3.i 2 (by omega), G3.i 3 (by omega), vr, v1, v2, v3, hi, ht, show (y + ((i % bs.length : Nat) : Int)).toNat = y.toNat + i % bs.length by omega]
          exact hxr.2 _ _ (List.getElem?_eq_getElem hm)
        refine ⟨by rw [G3.i 1 (by omega), v1]; exact hxr.1, by rw [G3.i 2 (by omega), v2]; exact hy, by rw [hi, G3.i 3 (by omega), v3, ht]; omega, by rw [hi, G3.i 3 (by omega), v3, ht]; omega, by rw [hcR]; rfl, ?_⟩
        show valI ((q3.h 15).cell (q3.i 1).toNat (q3.i 2 + (q3.i 30).tmod (q3.i 3)).toNat) = fateAt bs (q3.i 30).toNat
        rw [hcR, hi, Int.toNat_natCast]
        unfold fateAt
        rw [if_neg hne, List.getD_eq_getElem?_getD, List.getElem?_eq_getElem hm]; rfl
      · rw [G3.i 3 (by omega), v3] at h3
        have hne : bs = [] := List.length_eq_zero_iff.1 (by omega)
        show (0 : Int) = fateAt bs (q3.i 30).toNat
        unfold fateAt
        rw [if_pos hne]
      · have G4 : Agree 16 ρ q4 := G3.trans (g4.mono (by omega))
        have e30 : q4.i 30 = i := by rw [g4.i 30 (by omega), hi]
        have e31 : q4.h 31 = dNow s now := by rw [g4.h 31 (by omega), h31]
        have h33 : q4.i 33 = fateAt bs i := by
          have h33 : q4.i 33 = fateAt bs (q4.i 30).toNat := h33
          rw [h33, e30, Int.toNat_natCast]
        have ek : valI ((q4.h 17).cell (q4.i 17).toNat (q4.i 18 + q4.i 30).toNat) = key := by rw [hc17 q4 (g4.mono (by omega)) e30]; rfl
        have d6 : q4.i 6 = s := by rw [G4.i 6 (by omega), v6]
        have d7 : q4.i 7 = 0 := by rw [G4.i 7 (by omega), v7]
        have d8 : q4.i 8 = D.n := by rw [G4.i 8 (by omega), v8]
        have d10 : q4.i 10 = m := by rw [G4.i 10 (by omega), v10]
        have d14 : q4.h 14 = Hl.one m (.map es clock) := by rw [G4.h 14 (by omega), vm]
        have hat : ((0 : Int) + key * 64).toNat = 64 * key.toNat := by omega
        obtain ⟨jw, hjw⟩ := mapGo_was (k := key) 0 (hkex key hmk)
        rw [ek, d6, d7, d8, d10, d14, e31, hat, Int.toNat_natCast, Int.toNat_natCast]
        refine ⟨by omega, by omega, k0, k1, cells_bytes (sec_cell s key) (by rw [hs64]; decide), ⟨by omega, es, clock, _, hmem, mapFind_int h.map key, fun j v hv => ?_⟩, fun q5 g5 hq5 => ?_⟩
        · rw [hjw] at hv
          cases hv
          refine ⟨_, rfl, ?_⟩
          show (bys _).map ckOf = _
          rw [ckOf_bys, hw64]
        obtain ⟨hval, _⟩ := hq5 es clock _ hmem (mapFind_int h.map key)
        rw [hjw] at hval
        have hval : Value.agg ((ckCVs 34 cell64).map (CV.ev q5)).toArray = .agg (bys (wasOf D.loose key)).toArray := hval
        have ek5 : valI ((q5.h 17).cell (q5.i 17).toNat (q5.i 18 + q5.i 30).toNat) = key := by rw [hc17 q5 ((g4.mono (by omega)).trans (g5.mono (by omega))) (by rw [g5.i 30 (by omega), e30])]; rfl
        have hsec : ∀ q, Agree 34 q4 q → (romCells 31 (.var 6) (.add (.var 7) (.mul (.hI 17 (.var 17) (.add (.var 18) (.var 30)) 0) (.lit 64))) 0 (List.replicate 64 (Kd.int .u8))).map (CV.ev q) = bys (secOf now key) := by
          intro q g
          have e : valI ((q.h 17).cell (q.i 17).toNat (q.i 18 + q.i 30).toNat) = key := by rw [hc17 q ((g4.mono (by omega)).trans (g.mono (by omega))) (by rw [g.i 30 (by omega), e30])]; rfl
          refine romCells_ev 64 0 _ hs64 fun j z hz => ?_
          simp only [iev_add, iev_mul, iev_var, iev_lit, iev_hI, Nat.add_zero]
          rw [e, g.h 31 (by omega), g.i 6 (by omega), g.i 7 (by omega), e31, d6, d7, hat, Int.toNat_natCast, Nat.zero_add]
          exact sec_cell s key j z hz
        have e33 : q5.i 33 = fateAt bs i := by rw [g5.i 33 (by omega), h33]
        have hpre : ∀ l, l = [Value.agg (bys (wasOf D.loose key)).toArray, Value.agg (bys (secOf now key)).toArray, Value.int .u8 (fateAt bs i)] → tornS.pre l [] [] := by
          rintro l rfl
          exact torn_pre hw64 hs64 (fateAt_range hb i)
        have hargs : [Value.agg ((ckCVs 34 cell64).map (CV.ev q5)).toArray, Value.agg ((romCells 31 (.var 6) (.add (.var 7) (.mul (.hI 17 (.var 17) (.add (.var 18) (.var 30)) 0) (.lit 64))) 0 (List.replicate 64 (Kd.int .u8))).map (CV.ev q5)).toArray, Value.int .u8 (q5.i 33)] = [Value.agg (bys (wasOf D.loose key)).toArray, Value.agg (bys (secOf now key)).toArray, Value.int .u8 (fateAt bs i)] := by
          rw [hval, hsec q5 g5, e33]
        refine ⟨hpre _ hargs, fun q6 g6 ⟨_, hv6, _⟩ => ?_⟩
        have hv6 : Value.agg ((ckCVs 99 cell64).map (CV.ev q6)).toArray = .agg (bys (tornI (wasOf D.loose key) (secOf now key) (fateAt bs i))).toArray := by
          have hv6 : Value.agg ((ckCVs 99 cell64).map (CV.ev q6)).toArray = tornG [Value.agg ((ckCVs 34 cell64).map (CV.ev q5)).toArray, Value.agg ((romCells 31 (.var 6) (.add (.var 7) (.mul (.hI 17 (.var 17) (.add (.var 18) (.var 30)) 0) (.lit 64))) 0 (List.replicate 64 (Kd.int .u8))).map (CV.ev q5)).toArray, Value.int .u8 (q5.i 33)] := hv6
          rw [hv6, hargs]
          show Value.agg (bys (tornI (intsOf _) (intsOf _) _)).toArray = _
          rw [intsOf_bys, intsOf_bys]
        have hv6 : (ckCVs 99 cell64).map (CV.ev q6) = bys (tornI (wasOf D.loose key) (secOf now key) (fateAt bs i)) := by
          simpa using hv6
        have g46 : Agree 34 q4 q6 := g5.trans (g6.mono (by omega))
        have ek6 : valI ((q6.h 17).cell (q6.i 17).toNat (q6.i 18 + q6.i 30).toNat) = key := by rw [hc17 q6 ((g4.mono (by omega)).trans (g46.mono (by omega))) (by rw [g46.i 30 (by omega), e30])]; rfl
        rw [ek6, g46.i 6 (by omega), g46.i 7 (by omega), g46.h 31 (by omega), d6, d7, e31, hat, Int.toNat_natCast]
        have hv6' : (ckCVs 99 (List.replicate 64 (Ck.int .u8))).map (CV.ev q6) = bys (tornI (wasOf D.loose key) (secOf now key) (fateAt bs i)) := hv6
        have hlen : (ckCVs 99 (List.replicate 64 (Ck.int .u8))).length = 64 := by decide
        refine ⟨⟨by omega, by omega, ?_⟩, fun q7 g7 hq7 => ?_⟩
        · rw [hlen]
          exact Hl.one_wr _ _ _ _ _ (by rw [List.size_toArray, bys_length, hnl]; omega)
        · rw [hv6', dNow_put] at hq7
          have f30 : q7.i 30 = i := by rw [g7.i 30 (by omega), g46.i 30 (by omega), e30]
          have w : IntKind.i64.wrap ((i : Int) + 1) = i + 1 := wrap_i64 (by omega) (by omega)
          have m30 : (assign q7 [⟨30, 0, .int .i64 (.wrap .i64 (.add (.var 30) (.lit 1)))⟩] [(31, some 163)]).i 30 = i + 1 := by
            show IntKind.i64.wrap (q7.i 30 + 1) = _
            rw [f30, w]
          refine ⟨⟨i + 1, by rw [m30]; omega, by omega, ?_⟩, ?_⟩
          rotate_left
          · show ((D.loose.length : Int) - (assign q7 [⟨30, 0, .int .i64 (.wrap .i64 (.add (.var 30) (.lit 1)))⟩] [(31, some 163)]).i 30).toNat < ((D.loose.length : Int) - q3.i 30).toNat
            rw [m30, hi]; omega
          show q7.h 163 = _
          rw [hq7, ← hks]
          show _ = dNow s (splice (crashN D.loose bs D.now ks i) (64 * (ks.getD i 0).toNat) (tornI (wasOf D.loose (ks.getD i 0)) (secOf (crashN D.loose bs D.now ks i) (ks.getD i 0)) (fateAt bs i)))
          rw [← hkey, ← hnow]
    · have hi : i = D.loose.length := by omega
      subst hi
      rw [G3.i 10 (by omega), v10, G3.h 14 (by omega), vm, Int.toNat_natCast]
      refine ⟨⟨by omega, es, clock, hmem⟩, fun q4 g4 hq4 _ => ?_⟩
      have hq4 := hq4 es clock hmem
      rw [Hl.one_setObj] at hq4
      have G4 : Agree 15 ρ q4 := (G3.trans (g4.mono (by omega))).mono (by omega)
      rw [hρ] at G4
      refine ⟨[[0, 1, 2]], [], rfl, rfl, ⟨⟨fun _ => 0, fun _ => false, fun _ => .empty, fun _ => .tuple #[], fun _ => Hl.none⟩, rfl, trivial⟩, _, _, bs, H, R, D, _, rfl, rfl, rfl, ⟨a, s, m, es, clock, rfl, h⟩, ⟨x, y, cp, rfl, hy, hR⟩, rfl, ?_⟩
      refine dOut (es' := #[]) (clock' := clock) h G4 (crashD_ok h.ok bs) rfl rfl (MapKept.stamped_empty _) (iev_lit _ _) rfl ?_ hq4
      rw [g4.h 31 (by omega), h31, hks]; rfl
end Go.Proofs.Ytdohcabnaihaoaa
