/- Layer 8: what a log is, piece by piece; its bytes out of sectors, as a contract. No condition. -/
import Derived.Test.YtomdimlnggpgbaaDoorCelG
set_option linter.unusedSimpArgs false
set_option linter.unusedVariables false
set_option linter.constructorNameAsVariable false
namespace Go.Proofs.YtomdimlnggpgbaaDoor.D
open Go Go.Sx

def lObj (dp sl : Value) (L : LM) : Obj := .cells (lCells dp sl L).toArray 81 (0, 0)
/-- What a pointer to a log reaches. -/
def LogAt (H : Hl) (p dp : Value) (L : LM) (bs : List Int) : Prop := ∃ (a : Nat) (sl : Value) (HB : Hl), p = .pointer (some ⟨a, 0, none⟩) ∧ L.ok ∧ OwB HB 5 sl bs ∧ (Hl.one a (lObj dp sl L)).dis HB ∧ H = hls [Hl.one a (lObj dp sl L), HB]
theorem LogAt.parts {H : Hl} {p dp : Value} {L : LM} {bs : List Int} (h : LogAt H p dp L bs) : ∃ sl, LogRd H p dp sl L ∧ RdB H sl bs := by
  obtain ⟨a, sl, HB, rfl, hok, hO, hd, rfl⟩ := h
  refine ⟨sl, ⟨a, rfl, hok, ?_⟩, ?_⟩
  · exact Hl.un_left _ _ _ _ (Hl.one_self _ _)
  · obtain ⟨x, y, c, hv, hy, h⟩ := hO.rd
    refine ⟨x, y, c, hv, hy, h.imp id fun ⟨h0, h⟩ => ⟨h0, fun j z hz => ?_⟩⟩
    have hle : HB.le (hls [Hl.one a (lObj dp sl L), HB]) := by
      show HB.le ((Hl.one a (lObj dp sl L)).un (hls [HB]))
      rw [hls_one]; exact Hl.un_right hd
    have := h j z hz
    unfold Hl.cell at this ⊢
    split at this
    · rename_i o c' T fr ho
      rw [hle _ _ ho]; exact this
    · cases this
theorem LogAt.uniq {H : Hl} {p dp dp' : Value} {L L' : LM} {bs bs' : List Int} (h : LogAt H p dp L bs) (h' : LogAt H p dp' L' bs') : dp = dp' ∧ L = L' ∧ bs = bs' := by
  obtain ⟨sl, h1, h2⟩ := h.parts
  obtain ⟨sl', h1', h2'⟩ := h'.parts
  obtain ⟨e1, rfl, e3⟩ := h1.uniq h1'
  exact ⟨e1, e3, h2.uniq h2'⟩
theorem OwB.pre {F : Hl} {e : TypeId} {x l c : Int} {bs : List Int} (h : OwB F e (.slice (slP x 0) l.toNat c.toNat) bs) (hx : -1 ≤ x) {n : Int} (h0 : 0 ≤ n) (hn : n.toNat ≤ bs.length) : OwB F e (.slice (slP x 0) n.toNat c.toNat) (bs.take n.toNat) := by
  obtain ⟨hl, h⟩ := h
  have e1 : (bs.take n.toNat).length = n.toNat := by rw [List.length_take]; omega
  refine ⟨by rw [bys_length]; omega, ?_⟩
  rw [e1]
  rcases h with ⟨h, hb⟩ | ⟨g, cap, cur, h, hg, hle, hm, hs, ht⟩
  · simp only [Value.slice.injEq] at h
    refine Or.inl ⟨?_, by omega⟩
    rw [h.1, h.2.2, show n.toNat = 0 by omega]
  · simp only [Value.slice.injEq] at h
    refine Or.inr ⟨g, cap, cur, by rw [h.1, h.2.2], hg, by omega, hm, hs, ?_⟩
    have := congrArg (List.take n.toNat) ht
    rw [List.take_take] at this
    rw [Nat.mul_one]
    rw [show min n.toNat (bs.length * 1) = n.toNat by omega] at this
    rw [this]
    unfold bys
    rw [List.map_take]
def logK : List Ck := [.ptr, .int .i64, .int .i64, .int .u64, .int .u64] ++ List.replicate 16 (.int .u8)
/-- A log's numbers. -/
def lInts (da : Nat) (L : LM) : List Int := [(da : Int), 0, L.frm, L.most, L.serial, L.size] ++ L.note
theorem list16 {l : List Int} (h : l.length = 16) : ∃ a1 a2 a3 a4 a5 a6 a7 a8 a9 a10 a11 a12 a13 a14 a15 a16, l = [a1, a2, a3, a4, a5, a6, a7, a8, a9, a10, a11, a12, a13, a14, a15, a16] := by
  match l, h with
  | [a1, a2, a3, a4, a5, a6, a7, a8, a9, a10, a11, a12, a13, a14, a15, a16], _ => exact ⟨a1, a2, a3, a4, a5, a6, a7, a8, a9, a10, a11, a12, a13, a14, a15, a16, rfl⟩
/-- Where a log's numbers stand in an environment. -/
theorem logK_ev {q : Env} {n da : Nat} {L : LM} (hL : L.ok) (h : ∀ k, k < 22 → q.i (n + k) = (lInts da L).getD k 0) : (ckCVs n logK).map (CV.ev q) = [Value.pointer (some ⟨da, 0, none⟩), .int .i64 L.frm, .int .i64 L.most, .int .u64 L.serial, .int .u64 L.size] ++ bys L.note := by
  obtain ⟨a1, a2, a3, a4, a5, a6, a7, a8, a9, a10, a11, a12, a13, a14, a15, a16, hn⟩ := list16 hL.note
  have hq := Agree.refl 0 q
  have key : ∀ (q' : Env), (∀ k, k < 22 → q'.i k = (lInts da L).getD k 0) → (ckCVs 0 logK).map (CV.ev q') = [Value.pointer (some ⟨da, 0, none⟩), .int .i64 L.frm, .int .i64 L.most, .int .u64 L.serial, .int .u64 L.size] ++ bys L.note := by
    intro q' h
    have ag : Agree 22 (⟨fun k => (lInts da L).getD k 0, fun _ => false, fun _ => .empty, fun _ => .tuple #[], fun _ => Hl.none⟩ : Env) ⟨q'.i, fun _ => false, fun _ => .empty, fun _ => .tuple #[], fun _ => Hl.none⟩ := ⟨fun k hk => h k hk, fun _ _ => rfl, fun _ _ => rfl, fun _ _ => rfl, fun _ _ => rfl⟩
    have e1 : (ckCVs 0 logK).map (CV.ev q') = (ckCVs 0 logK).map (CV.ev ⟨q'.i, fun _ => false, fun _ => .empty, fun _ => .tuple #[], fun _ => Hl.none⟩) := rfl
    rw [e1, CV.agreeL ag _ (ckCVs_upto logK 0)]
    unfold lInts
    rw [hn]
    have ed : Value.pointer (slP (da : Int) 0) = .pointer (some ⟨da, 0, none⟩) := dArg da
    show [Value.pointer (slP (da : Int) 0)] ++ _ = _
    rw [ed]; rfl
  have := key ⟨fun k => q.i (n + k), q.b, q.s, q.v, q.h⟩ h
  rw [← this]
  rfl

theorem spec_of_fn2 {P : Program} {s : Sx.Spec} {Γ : List Sx.Spec} (hΓ : ∀ t ∈ Γ, t.OK P)
    (h : ∀ xs Hs Rs, Hs.length = s.own.length → Rs.length = s.rd.length → (∀ (p q : Nat) H K, p ≠ q → Hs[p]? = some H → Hs[q]? = some K → H.dis K) → s.pre xs Hs Rs → ∃ (W : Walk P Γ s.fn) (ρ : Env) (inv : Nat → Env → Prop) (mu : Nat → Env → Nat),
      W.args.map (TV.ev ρ) = xs ∧ Entry ρ W.mem Hs Rs ∧ Path ρ W.path ∧ W.nd.holds ⟨Γ, inv, mu, postOf s xs Hs Rs⟩ (fun _ => 0) ρ) : s.OK P := by
  intro w xs Hs Rs hl1 hl2 hs1 hs2 hd1 hd2 hpre
  obtain ⟨W, ρ, inv, mu, hx, hE, hp, hn⟩ := h xs Hs Rs hl1 hl2 hd1 hpre
  have hm := hE.mrel hs1 hs2 hd2
  have := fn_sound (C := ⟨Γ, inv, mu, postOf s xs Hs Rs⟩) hΓ (dk_ok (C := ⟨Γ, inv, mu, postOf s xs Hs Rs⟩) hΓ) W.ok hm hp hn
  rw [hx] at this
  refine this.mono ?_
  rintro e w' ⟨ρ', mem', r, rfl, hg, hm', hp'⟩
  obtain ⟨gs, f, hl, hok, ⟨ρ2, h2, h3⟩, hpost⟩ := hp' hm'.dis
  refine ⟨ρ2, gs.map (uni ρ' mem'), uni ρ' mem' f, by rw [h2], h3, Turned.of hm' hl hok, ?_⟩
  rw [← h2]; exact hpost

/-! ### load -/
def bytesAt (D : DM) (frm : Int) (n : Int) : List Int := (D.now.drop (64 * (frm + 2).toNat)).take n.toNat
def loadS : Sx.Spec where
  fn := 40
  own := [.arg 0, .link 0 0]
  rd := []
  res := [.one (.int .i64)]
  pre := fun xs Hs Rs => ∃ p a HL HD dp L D, xs = [p] ∧ Hs = [HL, HD] ∧ p = .pointer (some ⟨a, 0, none⟩) ∧ LogIn HL a dp (.slice none 0 0) L ∧ DiskAt HD dp D ∧ D.gone = false ∧ 0 ≤ L.size ∧ 64 * (L.frm + 2) + L.size ≤ 64 * D.n
  post := fun xs Hs Rs v Hs' F => ∃ p a HL HD dp L D HL' HD', xs = [p] ∧ Hs = [HL, HD] ∧ p = .pointer (some ⟨a, 0, none⟩) ∧ LogIn HL a dp (.slice none 0 0) L ∧ DiskAt HD dp D ∧ Hs' = [HL', HD'] ∧ DiskAt HD' dp D ∧ LogAt HL' p dp L (bytesAt D L.frm L.size) ∧ v = .int .i64 0
def loadNd : Nd := .and (.inv 0 [⟨40, 0, .int .i64 (.lit 0)⟩, ⟨41, 0, .int .i64 (.lit (-1))⟩, ⟨43, 0, .int .i64 (.lit 0)⟩, ⟨44, 0, .int .i64 (.lit 0)⟩] [(45, some 24), (46, none)]) (.havoc 0 0 25 (.and (.e (.le (.lit 0) (.var 43))) (.and (.imp (.lt (.var 43) (.wrap .i64 (.var 6))) (.and (.pre (.call 0 47 [.sv (.one (.hptr (.var 1) (.var 2))), .sv (.one (.int .i64 (.wrap .i64 (.add (.wrap .i64 (.add (.var 3) (.lit 2))) (.var 40)))))] [.hp 45 [] [.var 1] []] [])) (.ext (.call 0 47 [.sv (.one (.hptr (.var 1) (.var 2))), .sv (.one (.int .i64 (.wrap .i64 (.add (.wrap .i64 (.add (.var 3) (.lit 2))) (.var 40)))))] [.hp 45 [] [.var 1] []] []) (.and (.imp (.not (.eq (.var 51) (.lit 0))) (.post [.blk 0 (ckCVs 1 ([Ck.ptr, Ck.int .i64, Ck.int .i64, Ck.int .u64, Ck.int .u64] ++ List.replicate 16 (Ck.int .u8)) ++ [.sl (.var 41) (.lit 0) (.var 43) (.var 44), .bool (.bvar 23)]) 81, .hp 47 [45] [.var 1] [], .hp 46 [] [.var 41] [], .hp 48 [] [.var 47] []] (.sv (.one (.int .i64 (.var 51)))))) (.imp (.eq (.var 51) (.lit 0)) (.and (.pre (.app 52 5 1 1 (.sl (.var 41) (.lit 0) (.var 43) (.var 44)) (.var 43) (.hp 46 [] [.var 41] []) (.seg 48 (.var 47) (.var 48) (.var 49)))) (.ext (.app 52 5 1 1 (.sl (.var 41) (.lit 0) (.var 43) (.var 44)) (.var 43) (.hp 46 [] [.var 41] []) (.seg 48 (.var 47) (.var 48) (.var 49))) (.back 0 0 [⟨40, 0, .int .i64 (.wrap .i64 (.add (.var 40) (.lit 1)))⟩, ⟨41, 0, .int .i64 (.var 52)⟩, ⟨43, 0, .int .i64 (.add (.var 43) (.var 49))⟩, ⟨44, 0, .int .i64 (.var 53)⟩] [(45, some 47), (46, some 52)])))))))) (.imp (.not (.lt (.var 43) (.wrap .i64 (.var 6)))) (.and (.e (.le (.lit (-1)) (.var 41))) (.and (.e (.le (.lit 0) (.var 6))) (.and (.e (.le (.var 6) (.var 44))) (.post [.blk 0 (ckCVs 1 ([Ck.ptr, Ck.int .i64, Ck.int .i64, Ck.int .u64, Ck.int .u64] ++ List.replicate 16 (Ck.int .u8)) ++ [.sl (.var 41) (.lit 0) (.var 6) (.var 44), .bool (.bvar 23)]) 81, .hp 45 [] [.var 1] [], .hp 46 [] [.var 41] []] (.sv (.one (.int .i64 (.lit 0))))))))))))
def loadΓ : List Sx.Spec := [readS]
theorem loadΓ_ok : ∀ t ∈ loadΓ, t.OK Tryd.prog := fun t ht => by
  rw [loadΓ, List.mem_singleton] at ht; subst ht; exact readS_ok
def loadW : Walk Tryd.prog loadΓ loadS.fn where
  Λ := fun p => if lp p then some ⟨0, [(3, TI .i64 (.var 40))], [(0, .blk 0 (ckCVs 1 logK ++ [.sl (.var 41) (.lit 0) (.var 43) (.var 44), .bool (.bvar 23)]) 81), (1, .hp 45 [] [.var 1] []), (2, .hp 46 [] [.var 41] [])], 47⟩ else none
  args := [TP (.var 0) (.lit 0)]
  mem := [.blk 0 (ckCVs 1 logK ++ [.sl (.lit (-1)) (.lit 0) (.lit 0) (.lit 0), .bool (.bvar 23)]) 81, .hp 24 [] [.var 1] []]
  nv := 25
  nd := loadNd
  ok := by kernel_rfl
theorem lg0 : loadΓ[0]? = some readS := rfl
theorem readR_in {D : DM} {i : Int} (h : D.has i = true) (hg : D.gone = false) : readR D i = (D.sector i, 0) := by
  unfold readR
  rw [if_neg (by simp [h]), if_neg (by simp [hg])]
def loadInv (D : DM) (L : LM) (dp : Value) (_ : Nat) (q : Env) : Prop := ∃ i : Nat, q.i 40 = i ∧ q.i 43 = 64 * i ∧ -1 ≤ q.i 41 ∧ 0 ≤ q.i 44 ∧ (i = 0 ∨ (64 * (i : Int) - 64 < L.size)) ∧ DiskAt (q.h 45) dp D ∧ OwB (q.h 46) 5 (.slice (slP (q.i 41) 0) (q.i 43).toNat (q.i 44).toNat) ((D.now.drop (64 * (L.frm + 2).toNat)).take (64 * i))
theorem loadS_ok : loadS.OK Tryd.prog := by
  refine spec_of_fn2 (Γ := loadΓ) loadΓ_ok ?_
  rintro xs Hs Rs hl1 hl2 hdis ⟨p, a, HL, HD, dp, L, D, rfl, rfl, rfl, hL, hD, hgone, hs0, hs1⟩
  have e1 : Rs = [] := List.length_eq_zero_iff.1 hl2
  subst e1
  obtain ⟨da, s, m, es, clock, hdp, hDi⟩ := id hD
  have hnl := hL.1.note
  obtain ⟨f0, f1⟩ := hL.1.frm
  have hnn := hDi.ok.n
  have hnow := hDi.ok.now
  have eB : ∀ (q : Env) (sl : CV), q.i 0 = a → (∀ k, k < 22 → q.i (1 + k) = (lInts da L).getD k 0) → q.b 23 = L.over → (Res.blk 0 (ckCVs 1 logK ++ [sl, .bool (.bvar 23)]) 81).hl q = Hl.one a (lObj dp (sl.ev q) L) := by
    intro q sl h0 h1 h2
    show Hl.one (q.i 0).toNat (.cells ((ckCVs 1 logK ++ [sl, .bool (.bvar 23)]).map (CV.ev q)).toArray _ (0, 0)) = _
    rw [List.map_append, logK_ev hL.1 h1, h0, Int.toNat_natCast]
    unfold lObj lCells
    rw [hdp, ← h2, List.append_assoc]; rfl
  refine ⟨loadW, ⟨fun k => if k = 0 then (a : Int) else (lInts da L).getD (k - 1) 0, fun _ => L.over, fun _ => .empty, fun _ => .tuple #[], fun _ => HD⟩, loadInv D L dp, fun _ q => (L.size - 64 * q.i 40 + 64).toNat, ?_, ⟨?_, ?_, ?_, ?_⟩, (fun _ h => nomatch h), ?_⟩
  · show [Value.pointer (slP (a : Int) 0)] = _; rw [dArg]
  · intro r hr ho
    simp only [loadW, List.mem_cons, List.mem_nil_iff, or_false] at hr
    rcases hr with rfl | rfl
    · refine ⟨HL, by simp, ?_⟩
      rw [eB _ _ rfl (fun k hk => by show (if 1 + k = 0 then (a : Int) else (lInts da L).getD (1 + k - 1) 0) = _; rw [if_neg (by omega), show 1 + k - 1 = k by omega]) rfl]
      intro b o hb
      obtain ⟨rfl, rfl⟩ := Hl.one_eq hb
      exact hL.2
    · exact ⟨HD, by simp, Hl.le_refl _⟩
  · intro r hr ho
    simp only [loadW, List.mem_cons, List.mem_nil_iff, or_false] at hr
    rcases hr with rfl | rfl <;> cases ho
  · have hd : HL.dis HD := hdis 0 1 _ _ (by decide) rfl rfl
    have hm : HL.mem a := by unfold Hl.mem; rw [hL.2]; rfl
    refine List.Pairwise.cons (fun r hr _ _ => ?_) (List.Pairwise.cons (fun r hr => by cases hr) List.Pairwise.nil)
    rw [List.mem_singleton] at hr
    subst hr
    exact Hl.one_dis.2 fun h => hd a ⟨hm, h⟩
  · intro r hr
    simp only [loadW, List.mem_cons, List.mem_nil_iff, or_false] at hr
    rcases hr with rfl | rfl
    · show (0 : Int) ≤ (a : Int); omega
    · trivial
  · show Nd.holds _ _ _ loadNd
    generalize hρ : (⟨fun k => if k = 0 then (a : Int) else (lInts da L).getD (k - 1) 0, fun _ => L.over, fun _ => .empty, fun _ => .tuple #[], fun _ => HD⟩ : Env) = ρ
    unfold loadNd
    simp only [Nd.holds, X.pre, X.rel, X.n, Src.ok, Src.len, Src.vals, true_and, and_true, if_true, Nat.mul_one, Nat.add_zero, Nat.reduceAdd, List.length_cons, List.length_nil, bT_tt, bT_ff, bT_bvar, bT_not, bT_and, bT_or, bT_ite, bT_lt, bT_le, bT_eq, bT_beq, bT_seq, bT_hB, bT_his, bT_hby, bT_hism, bT_hks, iev_lit, iev_var, iev_add, iev_sub, iev_mul, iev_wrap, iev_ite, iev_hI, iev_hP, iev_hmlen, sev_ite, sev_slit, sev_sof, sev_svar, TV.ev, SV.ev, CV.ev, List.map_cons, List.map_nil, Res.hl, cpTV, Cp.sv, Ck.cv, cpSVs, Cp.len, Ck.len, newHs_zero, newHs_one, roots_ne, lg0, rr0, rc0]
    have r0 : ρ.i 0 = a := by rw [← hρ]; rfl
    have rk : ∀ k, k < 22 → ρ.i (1 + k) = (lInts da L).getD k 0 := by
      intro k hk
      rw [← hρ]
      show (if 1 + k = 0 then (a : Int) else (lInts da L).getD (1 + k - 1) 0) = _
      rw [if_neg (by omega), show 1 + k - 1 = k by omega]
    have rb : ρ.b 23 = L.over := by rw [← hρ]
    have rh : ρ.h 24 = HD := by rw [← hρ]
    refine ⟨⟨0, rfl, rfl, Int.le_refl _, Int.le_refl _, Or.inl rfl, ?_, ⟨rfl, Or.inl ⟨rfl, rfl⟩⟩⟩, fun q g ⟨i, e40, e43, e41, e44, hi, hDq, hO⟩ => ?_⟩
    · show DiskAt (ρ.h 24) dp D
      rw [rh]; exact hD
    · have u1 : q.i 1 = da := by rw [g.i 1 (by omega)]; exact rk 0 (by omega)
      have u2 : q.i 2 = 0 := by rw [g.i 2 (by omega)]; exact rk 1 (by omega)
      have u3 : q.i 3 = L.frm := by rw [g.i 3 (by omega)]; exact rk 2 (by omega)
      have u6 : q.i 6 = L.size := by rw [g.i 6 (by omega)]; exact rk 5 (by omega)
      have ep : Value.pointer (slP (da : Int) 0) = dp := by rw [dArg, hdp]
      have es : IntKind.i64.wrap L.size = L.size := wrap_i64 (by omega) (by omega)
      rw [u1, u2, u3, u6, e40, e43, es, ep]
      refine ⟨by omega, fun hlt => ?_, fun hge => ⟨e41, hs0, ?_, fun hd => ?_⟩⟩
      · have ei : IntKind.i64.wrap (IntKind.i64.wrap (L.frm + 2) + i) = L.frm + 2 + i := by
          rw [wrap_i64 (n := L.frm + 2) (by omega) (by omega), wrap_i64 (by omega) (by omega)]
        rw [ei]
        have hh : D.has (L.frm + 2 + i) = true := by unfold DM.has; simp only [decide_eq_true_eq]; omega
        have hr := readR_in hh hgone
        have hsl := sector_length hDi.ok hh
        refine ⟨⟨dp, _, _, D, rfl, rfl, hDq⟩, fun q1 g1 ⟨F, ⟨p', i', H', D', H2, u, hx, hH, hD', hH2, hD2, hv, hOu⟩, hF, hn⟩ => ?_⟩
        cases hx
        cases hH
        have e := hD'.uniq hDq
        subst e
        have hF := hF trivial
        subst hF
        rw [hr] at hv hOu
        simp only [Value.tuple.injEq, Array.mk.injEq, List.cons.injEq, Value.int.injEq, true_and, and_true] at hv hH2
        obtain ⟨rfl, h51⟩ := hv
        obtain ⟨⟨n47, n48, n49, n50⟩, _⟩ := hn
        have n48 : 0 ≤ q1.i 48 := n48
        have n49 : 0 ≤ q1.i 49 := n49
        obtain ⟨e49, hc⟩ := hOu.rd.at n47 n48 n49
        have e49 : q1.i 49 = 64 := by rw [e49]; show (((D'.sector (L.frm + 2 + i)).length : Nat) : Int) = 64; rw [hsl]; rfl
        have hc : 0 ≤ q1.i 47 ∧ ∀ j z, (D'.sector (L.frm + 2 + i))[j]? = some z → (q1.h 48).cell (q1.i 47).toNat ((q1.i 48).toNat + j) = some (.int .u8 z) := by
          rcases hc with ⟨_, hc⟩ | hc
          · have hc : D'.sector (L.frm + 2 + i) = [] := hc
            rw [hc] at hsl; cases hsl
          · exact hc
        obtain ⟨p47, hc⟩ := hc
        have x43 : q1.i 43 = 64 * i := by rw [g1.i 43 (by omega), e43]
        rw [g1.h 46 (by omega), g1.i 41 (by omega), g1.i 44 (by omega), x43, e49]
        rw [e43] at hO
        have hTl : ((D'.now.drop (64 * (L.frm + 2).toNat)).take (64 * i)).length = 64 * i := by rw [List.length_take, List.length_drop]; omega
        have hO' : OwnsH (q.h 46) 5 1 (.slice (slP (q.i 41) 0) (64 * (i : Int)).toNat (q.i 44).toNat) (64 * (i : Int)).toNat (bys ((D'.now.drop (64 * (L.frm + 2).toNat)).take (64 * i))) := by
          unfold OwB at hO
          rw [hTl] at hO
          rw [show (64 * (i : Int)).toNat = 64 * i by omega] at hO ⊢
          exact hO
        refine ⟨fun h => absurd h51 h, fun _ => ⟨⟨⟨_, hO'⟩, by omega, Or.inl ⟨p47, n48, by omega, fun j hj => ?_⟩, by unfold maxLen; omega, by omega⟩, fun q2 g2 ⟨a1, a2, a3, _⟩ => ?_⟩⟩
        · have hj : j < (D'.sector (L.frm + 2 + i)).length := by have : (64 : Int).toNat = 64 := rfl; omega
          exact ⟨_, hc j _ (List.getElem?_eq_getElem hj), rfl⟩
        · have hseg : segVals (q1.h 48) (q1.i 47).toNat (q1.i 48).toNat (Int.toNat 64) = bys (D'.sector (L.frm + 2 + i)) := by
            unfold segVals
            apply List.ext_getElem?
            intro j
            rw [List.getElem?_map, bys_get]
            rcases Nat.lt_or_ge j 64 with hj | hj
            · rw [show (64 : Int).toNat = 64 from rfl, List.getElem?_range hj, Option.map_some, hc j _ (List.getElem?_eq_getElem (by omega)), List.getElem?_eq_getElem (by omega)]
              rfl
            · rw [List.getElem?_eq_none (by simpa using hj), List.getElem?_eq_none (by omega)]; rfl
          have hx := a3 _ hO'
          rw [hseg] at hx
          have hcat : (D'.now.drop (64 * (L.frm + 2).toNat)).take (64 * (i + 1)) = (D'.now.drop (64 * (L.frm + 2).toNat)).take (64 * i) ++ D'.sector (L.frm + 2 + i) := by
            rw [show 64 * (i + 1) = 64 * i + 64 by omega, List.take_add, List.drop_drop]
            unfold DM.sector
            rw [show 64 * (L.frm + 2).toNat + 64 * i = 64 * (L.frm + 2 + i).toNat by omega]
          have m40 : (assign q2 [⟨40, 0, .int .i64 (.wrap .i64 (.add (.var 40) (.lit 1)))⟩, ⟨41, 0, .int .i64 (.var 52)⟩, ⟨43, 0, .int .i64 (.add (.var 43) (.var 49))⟩, ⟨44, 0, .int .i64 (.var 53)⟩] [(45, some 47), (46, some 52)]).i 40 = i + 1 := by
            show IntKind.i64.wrap (q2.i 40 + 1) = _
            rw [g2.i 40 (by omega), g1.i 40 (by omega), e40, wrap_i64 (by omega) (by omega)]
          have m43 : (assign q2 [⟨40, 0, .int .i64 (.wrap .i64 (.add (.var 40) (.lit 1)))⟩, ⟨41, 0, .int .i64 (.var 52)⟩, ⟨43, 0, .int .i64 (.add (.var 43) (.var 49))⟩, ⟨44, 0, .int .i64 (.var 53)⟩] [(45, some 47), (46, some 52)]).i 43 = 64 * i + 64 := by
            show q2.i 43 + q2.i 49 = _
            rw [g2.i 43 (by omega), g2.i 49 (by omega), x43, e49]
          refine ⟨⟨i + 1, by rw [m40]; omega, by rw [m43]; omega, a1, a2, Or.inr (by omega), ?_, ?_⟩, by rw [m40]; omega⟩
          · show DiskAt (q2.h 47) dp D'
            rw [g2.h 47 (by omega), hH2]; exact hD2
          · rw [m43]
            show OwB (q2.h 52) _ (.slice (slP (q2.i 52) 0) (64 * (i : Int) + 64).toNat (q2.i 53).toNat) _
            rw [hcat]
            unfold OwB
            rw [bys_append, List.length_append, hTl, hsl]
            rw [show (64 * (i : Int)).toNat + Int.toNat 64 = 64 * i + 64 by have : (64 : Int).toNat = 64 := rfl; omega] at hx
            rw [show (64 * (i : Int) + 64).toNat = 64 * i + 64 by omega]
            exact hx
      · have := OwB.cap hO (by omega) e44
        omega
      · have hd02 := hd 0 2 _ _ (by decide) rfl rfl rfl
        have eb := eB q (.sl (.var 41) (.lit 0) (.var 6) (.var 44)) (by rw [g.i 0 (by omega), r0]) (fun k hk => by rw [g.i (1 + k) (by omega)]; exact rk k hk) (by rw [g.b 23 (by omega), rb])
        have ev : CV.ev q (.sl (.var 41) (.lit 0) (.var 6) (.var 44)) = .slice (slP (q.i 41) 0) L.size.toNat (q.i 44).toNat := by
          simp only [CV.ev, iev_var, iev_lit, u6]
        rw [ev] at eb
        refine ⟨[[0, 2], [1]], [], rfl, rfl, ⟨⟨fun _ => 0, fun _ => false, fun _ => .empty, fun _ => .tuple #[], fun _ => Hl.none⟩, rfl, trivial, trivial⟩, _, a, HL, HD, dp, L, D, _, _, rfl, rfl, rfl, hL, hD, rfl, ?_, ?_, rfl⟩
        · show DiskAt (hls [q.h 45]) _ _
          rw [hls_one]; exact hDq
        · refine ⟨a, .slice (slP (q.i 41) 0) L.size.toNat (q.i 44).toNat, q.h 46, rfl, hL.1, ?_, ?_, ?_⟩
          · rw [e43] at hO
            have hTl : ((D.now.drop (64 * (L.frm + 2).toNat)).take (64 * i)).length = 64 * i := by
              rw [List.length_take, List.length_drop]
              rcases hi with rfl | hi <;> omega
            have := OwB.pre hO e41 hs0 (by rw [hTl]; omega)
            rw [List.take_take, show min L.size.toNat (64 * i) = L.size.toNat by omega] at this
            exact this
          · rw [← eb]; exact hd02
          · exact congrArg (fun z => hls [z, q.h 46]) eb
end Go.Proofs.YtomdimlnggpgbaaDoor.D
