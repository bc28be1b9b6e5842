/- Layer 8: law08.sectors: rows of bytes of their own, as a contract. No condition. -/
import Derived.Test.YtnpepkjfeadbjaaCelQ
set_option linter.unusedSimpArgs false
set_option linter.unusedVariables false
set_option linter.constructorNameAsVariable false
namespace Go.Proofs.Ytnpepkjfeadbjaa
open Go Go.Sx

/-- Slices of bytes that may be read, in a slice. -/
def SlC (R : Hl) (v : Value) (rows : List (List Int)) : Prop :=
  ∃ (x y : Int) (c : Nat) (us : List Value), v = .slice (slP x y) us.length c ∧ 0 ≤ y ∧ us.length ≤ c ∧ us.length = rows.length ∧ (∀ (j : Nat) (u : Value), us[j]? = some u → 0 ≤ x ∧ R.cell x.toNat (y.toNat + j) = some u) ∧ ∀ (j : Nat) (u : Value) (r : List Int), us[j]? = some u → rows[j]? = some r → RdC R u r
/-- A row of bytes of a nested slice of one's own. -/
def RdO (F : Hl) (o : Option Nat) (u : Value) (bs : List Int) : Prop := ∃ (x y : Int) (c : Nat), u = .slice (slP x y) bs.length c ∧ 0 ≤ y ∧ bs.length ≤ c ∧ 0 ≤ x ∧ some x.toNat ≠ o ∧ F.mem x.toNat ∧ ∀ j z, bs[j]? = some z → F.cell x.toNat (y.toNat + j) = some (.int .u8 z)
def NestO (F : Hl) (v : Value) (rows : List (List Int)) : Prop := ∃ us : List Value, OwnsH F 26 1 v us.length us ∧ us.length = rows.length ∧ ∀ (j : Nat) (u : Value) (r : List Int), us[j]? = some u → rows[j]? = some r → RdO F v.ownBlock u r
theorem NestO.sl {F : Hl} {v : Value} {rows : List (List Int)} (h : NestO F v rows) : SlC F v rows := by
  obtain ⟨us, ⟨hl, h⟩, he, hr⟩ := h
  have hr' : ∀ (j : Nat) (u : Value) (r : List Int), us[j]? = some u → rows[j]? = some r → RdC F u r := by
    intro j u r hu hrr
    obtain ⟨x, y, c, e, hy, hc, hx, _, _, hcell⟩ := hr j u r hu hrr
    exact ⟨x, y, c, e, hy, hc, hx, hcell⟩
  rcases h with ⟨rfl, hn⟩ | ⟨g, cap, cur, rfl, hg, hle, hm, hs, ht⟩
  · have hus : us = [] := List.length_eq_zero_iff.1 hn
    subst hus
    exact ⟨-1, 0, 0, [], rfl, by omega, by simp, he, (fun _ _ h => nomatch h), hr'⟩
  · refine ⟨g, 0, cap, us, by rw [slP_pos (by omega)]; simp, by omega, hle, he, fun j u hu => ⟨by omega, ?_⟩, hr'⟩
    have hj := (List.getElem?_eq_some_iff.1 hu).1
    simp only [Int.toNat_natCast, Hl.cell, hg, Int.toNat_zero, Nat.zero_add]
    have e1 : (cur.toList.take (us.length * 1))[j]? = some u := by rw [ht]; exact hu
    rw [List.getElem?_take_of_lt (by omega), Array.getElem?_toList] at e1
    exact e1
theorem SlC.uniq {R : Hl} {v : Value} {a b : List (List Int)} (h1 : SlC R v a) (h2 : SlC R v b) : a = b := by
  obtain ⟨x, y, c, us, rfl, hy, _, hl, hc, hr⟩ := h1
  obtain ⟨x', y', c', us', he, hy', _, hl', hc', hr'⟩ := h2
  simp only [Value.slice.injEq] at he
  obtain ⟨hp, hn, _⟩ := he
  apply List.ext_getElem (by omega)
  intro j h1 h2
  have hu := List.getElem?_eq_getElem (show j < us.length by omega)
  have hu' := List.getElem?_eq_getElem (show j < us'.length by omega)
  obtain ⟨hx, c1⟩ := hc j _ hu
  obtain ⟨hx', c2⟩ := hc' j _ hu'
  obtain ⟨rfl, hyy⟩ := slP_inj (by omega) hy (by omega) hy' hp
  have hyy := hyy hx
  subst hyy
  rw [c1] at c2
  have r1 := hr j _ _ hu (List.getElem?_eq_getElem h1)
  have r2 := hr' j _ _ hu' (List.getElem?_eq_getElem h2)
  rw [← Option.some.inj c2] at r2
  exact r1.w.uniq r2.w
theorem OwnsH.un_left {a b : Hl} {e : TypeId} {size : Nat} {v : Value} {n : Nat} {xs : List Value} (h : OwnsH a e size v n xs) : OwnsH (a.un b) e size v n xs := by
  refine ⟨h.1, ?_⟩
  rcases h.2 with h | ⟨g, cap, cur, hv, hg, r⟩
  · exact Or.inl h
  · exact Or.inr ⟨g, cap, cur, hv, Hl.un_at_left hg, r⟩
def rowsOf (D : DM) (frm : Int) (n : Nat) : List (List Int) := (List.range n).map fun (j : Nat) => D.sector (frm + j)
theorem rowsOf_length (D : DM) (frm : Int) (n : Nat) : (rowsOf D frm n).length = n := by simp [rowsOf]
theorem rowsOf_succ (D : DM) (frm : Int) (n : Nat) : rowsOf D frm (n + 1) = rowsOf D frm n ++ [D.sector (frm + n)] := by
  unfold rowsOf
  rw [List.range_succ, List.map_append]; rfl
def sectsS : Sx.Spec where
  fn := 18
  own := [.arg 0]
  rd := []
  res := [.one .sl]
  pre := fun xs Hs Rs => ∃ dp frm H D, xs = [dp, .int .i64 frm] ∧ Hs = [H] ∧ DiskAt H dp D ∧ D.gone = false ∧ 0 ≤ frm ∧ frm ≤ D.n
  post := fun xs Hs Rs v Hs' F => ∃ dp frm H D H', xs = [dp, .int .i64 frm] ∧ Hs = [H] ∧ DiskAt H dp D ∧ Hs' = [H'] ∧ DiskAt H' dp D ∧ SlC F v (rowsOf D frm (D.n - frm).toNat)
def sectsNd : Nd := .and (.inv 0 [⟨20, 0, .int .i64 (.lit (-1))⟩, ⟨22, 0, .int .i64 (.lit 0)⟩, ⟨23, 0, .int .i64 (.lit 0)⟩, ⟨24, 0, .int .i64 (.var 1)⟩] [(25, some 2), (26, none)]) (.havoc 0 0 3 (.and (.pre (.call 0 30 [.sv (.one (.hptr (.var 0) (.lit 0)))] [.hp 25 [] [.var 0] []] [])) (.ext (.call 0 30 [.sv (.one (.hptr (.var 0) (.lit 0)))] [.hp 25 [] [.var 0] []] []) (.and (.imp (.lt (.var 24) (.var 30)) (.and (.pre (.call 1 32 [.sv (.one (.hptr (.var 0) (.lit 0))), .sv (.one (.int .i64 (.var 24)))] [.hp 30 [25] [.var 0] []] [])) (.ext (.call 1 32 [.sv (.one (.hptr (.var 0) (.lit 0))), .sv (.one (.int .i64 (.var 24)))] [.hp 30 [25] [.var 0] []] []) (.ext (.alloc 37) (.ext (.mrg 38 (.hp 26 [] [.var 20] []) (.hp 33 [] [.var 32] [])) (.and (.pre (.app 39 26 1 24 (.sl (.var 20) (.lit 0) (.var 22) (.var 23)) (.var 22) (.hp 38 [26, 33] [.var 20, .var 32, .var 32] []) (.cvs [.sl (.var 32) (.var 33) (.var 34) (.var 35)] 1))) (.ext (.app 39 26 1 24 (.sl (.var 20) (.lit 0) (.var 22) (.var 23)) (.var 22) (.hp 38 [26, 33] [.var 20, .var 32, .var 32] []) (.cvs [.sl (.var 32) (.var 33) (.var 34) (.var 35)] 1)) (.back 0 0 [⟨20, 0, .int .i64 (.var 39)⟩, ⟨22, 0, .int .i64 (.add (.var 22) (.lit 1))⟩, ⟨23, 0, .int .i64 (.var 40)⟩, ⟨24, 0, .int .i64 (.wrap .i64 (.add (.var 24) (.lit 1)))⟩] [(25, some 32), (26, some 39)])))))))) (.imp (.not (.lt (.var 24) (.var 30))) (.post [.hp 30 [25] [.var 0] [], .hp 26 [] [.var 20] []] (.sv (.one (.sl (.var 20) (.lit 0) (.var 22) (.var 23))))))))))
def sectsΓ : List Sx.Spec := [sectorsS, readS]
theorem sectsΓ_ok : ∀ t ∈ sectsΓ, t.OK Try.prog := fun t ht => by
  simp only [sectsΓ, List.mem_cons, List.mem_nil_iff, or_false] at ht
  rcases ht with rfl | rfl
  · exact sectorsS_ok
  · exact readS_ok
def sectsW : Walk Try.prog sectsΓ sectsS.fn where
  Λ := fun p => if lp p then some ⟨0, [(5, .sv (.one (.sl (.var 20) (.lit 0) (.var 22) (.var 23)))), (6, TI .i64 (.var 24))], [(0, .hp 25 [] [.var 0] []), (1, .hp 26 [] [.var 20] [])], 30⟩ else none
  args := [TP (.var 0) (.lit 0), TI .i64 (.var 1)]
  mem := [.hp 2 [] [.var 0] []]
  nv := 3
  nd := sectsNd
  ok := by kernel_rfl
theorem sg0 : sectsΓ[0]? = some sectorsS := rfl
theorem sg1 : sectsΓ[1]? = some readS := rfl
def sectsInv (D : DM) (dp : Value) (frm : Int) (_ : Nat) (q : Env) : Prop := ∃ i : Nat, q.i 24 = frm + i ∧ q.i 22 = i ∧ frm + i ≤ D.n ∧ -1 ≤ q.i 20 ∧ 0 ≤ q.i 23 ∧ DiskAt (q.h 25) dp D ∧ NestO (q.h 26) (.slice (slP (q.i 20) 0) (q.i 22).toNat (q.i 23).toNat) (rowsOf D frm i)
theorem sectsS_ok : sectsS.OK Try.prog := by
  refine Spec.of_fn (Γ := sectsΓ) sectsΓ_ok ?_
  rintro xs Hs Rs hl1 hl2 ⟨dp, frm, H, D, rfl, rfl, hD, hgone, hf0, hf1⟩
  have e1 : Rs = [] := List.length_eq_zero_iff.1 hl2
  subst e1
  obtain ⟨da, s, m, es, clock, hdp, hDi⟩ := id hD
  have hDn := hDi.ok.n
  refine ⟨sectsW, envI [da, frm] false [Hl.none, Hl.none, H], sectsInv D dp frm, fun _ q => (D.n - q.i 24).toNat, ?_, ⟨?_, ?_, ?_, ?_⟩, (fun _ h => nomatch h), ?_⟩
  · show [Value.pointer (slP (da : Int) 0), Value.int .i64 frm] = _; rw [dArg, hdp]
  · intro r hr ho; simp [sectsW] at hr; subst hr; exact ⟨H, by simp, Hl.le_refl _⟩
  · intro r hr ho; simp [sectsW] at hr; subst hr; cases ho
  · simp [sectsW]
  · intro r hr; simp [sectsW] at hr; subst hr; trivial
  · show Nd.holds _ _ _ sectsNd
    generalize hρ : envI [(da : Int), frm] false [Hl.none, Hl.none, H] = ρ
    have v0 : ρ.i 0 = da := by rw [← hρ]; rfl
    have v1 : ρ.i 1 = frm := by rw [← hρ]; rfl
    have w2 : ρ.h 2 = H := by rw [← hρ]; rfl
    have ep : Value.pointer (slP (da : Int) 0) = dp := by rw [dArg, hdp]
    unfold sectsNd
    simp only [Nd.holds, X.pre, X.rel, X.n, Src.ok, Src.len, Src.vals, true_and, and_true, if_true, Nat.mul_one, Nat.add_zero, Nat.reduceAdd, List.length_cons, List.length_nil, bT_tt, bT_ff, bT_bvar, bT_not, bT_and, bT_or, bT_ite, bT_lt, bT_le, bT_eq, bT_beq, bT_seq, bT_hB, bT_his, bT_hby, bT_hism, bT_hks, iev_lit, iev_var, iev_add, iev_sub, iev_mul, iev_wrap, iev_ite, iev_hI, iev_hP, iev_hmlen, sev_ite, sev_slit, sev_sof, sev_svar, TV.ev, SV.ev, CV.ev, List.map_cons, List.map_nil, Res.hl, cpTV, Cp.sv, Ck.cv, cpSVs, Cp.len, Ck.len, newHs_zero, newHs_one, roots_ne, sg0, sg1, or0, rr0, rc0]
    refine ⟨⟨0, by show ρ.i 1 = _; rw [v1]; omega, rfl, by omega, Int.le_refl _, Int.le_refl _, by show DiskAt (ρ.h 2) dp D; rw [w2]; exact hD, ⟨[], ⟨rfl, Or.inl ⟨rfl, rfl⟩⟩, rfl, fun _ _ _ h => nomatch h⟩⟩, fun q g ⟨i, e24, e22, hi, e20, e23, hDq, hN⟩ => ?_⟩
    rw [g.i 0 (by omega), v0, ep, e24]
    refine ⟨⟨dp, _, D, rfl, rfl, hDq⟩, fun q1 g1 ⟨F1, ⟨p', H', D', H2, hx, hH, hD', hH2, hD2, hv⟩, _, _⟩ => ?_⟩
    cases hx
    cases hH
    have e := hD'.uniq hDq
    subst e
    simp only [Value.int.injEq, true_and, List.cons.injEq, and_true] at hv hH2
    rw [← hH2] at hD2
    have hv : q1.i 30 = D'.n := hv
    rw [hv, g1.i 0 (by omega), g.i 0 (by omega), v0, ep, g1.i 24 (by omega), e24]
    refine ⟨fun hlt => ⟨⟨dp, _, _, D', rfl, rfl, hD2⟩, fun q2 g2 ⟨F2, ⟨p', i', H', D1, H3, u, hx, hH, hD1, hH3, hD3, hv2, hO⟩, hF2, hn2⟩ q3 g3 _ q4 g4 ⟨hm, hdis⟩ => ?_⟩, fun hge => fun _ => ⟨[[0]], [1], rfl, rfl, ⟨⟨fun k => [q1.i 20, 0, q1.i 22, q1.i 23].getD k 0, fun _ => false, fun _ => .empty, fun _ => .tuple #[], fun _ => Hl.none⟩, rfl, ⟨?_, Int.le_refl _, ?_, ?_⟩, trivial⟩, dp, frm, H, D', _, rfl, rfl, hD, rfl, ?_, ?_⟩⟩
    · cases hx
      cases hH
      have e := hD1.uniq hD2
      subst e
      have hh : D1.has (frm + i) = true := by unfold DM.has; simp only [decide_eq_true_eq]; omega
      rw [readR_in hh hgone] at hv2 hO
      have hF2 := hF2 trivial
      subst hF2
      simp only [Value.tuple.injEq, Array.mk.injEq, List.cons.injEq, Value.int.injEq, true_and, and_true] at hv2 hH3
      obtain ⟨rfl, _⟩ := hv2
      obtain ⟨⟨n32, n33, n34, n35⟩, _⟩ := hn2
      have n33 : 0 ≤ q2.i 33 := n33
      have n34 : 0 ≤ q2.i 34 := n34
      have n35 : 0 ≤ q2.i 35 := n35
      have hsl := sector_length hDi.ok hh
      obtain ⟨e34, hcb⟩ := hO.rd.at n32 n33 n34
      have hcb : 0 ≤ q2.i 32 ∧ ∀ j z, (D1.sector (frm + i))[j]? = some z → (q2.h 33).cell (q2.i 32).toNat ((q2.i 33).toNat + j) = some (.int .u8 z) := by
        rcases hcb with ⟨_, h⟩ | h
        · have h : D1.sector (frm + i) = [] := h
          rw [h] at hsl; cases hsl
        · exact h
      obtain ⟨p32, hcb⟩ := hcb
      have hcap := OwB.cap hO n34 n35
      have hmem := OwB.mem hO p32
      have a26 : q3.h 26 = q.h 26 := by rw [g3.h 26 (by omega), g2.h 26 (by omega), g1.h 26 (by omega)]
      have a33 : q3.h 33 = q2.h 33 := g3.h 33 (by omega)
      rw [a26, a33] at hm hdis
      have b20 : q4.i 20 = q.i 20 := by rw [g4.i 20 (by omega), g3.i 20 (by omega), g2.i 20 (by omega), g1.i 20 (by omega)]
      have b22 : q4.i 22 = i := by rw [g4.i 22 (by omega), g3.i 22 (by omega), g2.i 22 (by omega), g1.i 22 (by omega), e22]
      have b23 : q4.i 23 = q.i 23 := by rw [g4.i 23 (by omega), g3.i 23 (by omega), g2.i 23 (by omega), g1.i 23 (by omega)]
      have b24 : q4.i 24 = frm + i := by rw [g4.i 24 (by omega), g3.i 24 (by omega), g2.i 24 (by omega), g1.i 24 (by omega), e24]
      have G42 : Agree 30 q q4 := ((g1.trans (g2.mono (by omega))).trans (g3.mono (by omega))).trans (g4.mono (by omega))
      have c32 : q4.i 32 = q2.i 32 := by rw [g4.i 32 (by omega), g3.i 32 (by omega)]
      have c33 : q4.i 33 = q2.i 33 := by rw [g4.i 33 (by omega), g3.i 33 (by omega)]
      have c34 : q4.i 34 = q2.i 34 := by rw [g4.i 34 (by omega), g3.i 34 (by omega)]
      have c35 : q4.i 35 = q2.i 35 := by rw [g4.i 35 (by omega), g3.i 35 (by omega)]
      obtain ⟨us, hus, hul, hur⟩ := hN
      rw [e22] at hus hur
      have hil : us.length = i := by rw [hul, rowsOf_length]
      rw [hm, b20, b22, b23]
      have hus' : OwnsH ((q.h 26).un (q2.h 33)) 26 1 (.slice (slP (q.i 20) 0) ((i : Int)).toNat (q.i 23).toNat) ((i : Int)).toNat us := by
        have := OwnsH.un_left (b := q2.h 33) hus
        rw [hil] at this
        rw [Int.toNat_natCast] at this ⊢
        exact this
      refine ⟨⟨⟨us, hus'⟩, by omega, by rw [Int.toNat_natCast]; unfold maxLen; omega, by rw [Int.toNat_natCast]; omega⟩, fun q5 g5 ⟨a1, a2, a3, a4, _, a6⟩ => ?_⟩
      have hx5 := a3 us hus'
      have eb : List.map (CV.ev q4) [CV.sl (.var 32) (.var 33) (.var 34) (.var 35)] = [.slice (slP (q2.i 32) (q2.i 33)) (q2.i 34).toNat (q2.i 35).toNat] := by
        show [Value.slice (slP (q4.i 32) (q4.i 33)) (q4.i 34).toNat (q4.i 35).toNat] = _
        rw [c32, c33, c34, c35]
      have m24 : (assign q5 [⟨20, 0, .int .i64 (.var 39)⟩, ⟨22, 0, .int .i64 (.add (.var 22) (.lit 1))⟩, ⟨23, 0, .int .i64 (.var 40)⟩, ⟨24, 0, .int .i64 (.wrap .i64 (.add (.var 24) (.lit 1)))⟩] [(25, some 32), (26, some 39)]).i 24 = frm + i + 1 := by
        show IntKind.i64.wrap (q5.i 24 + 1) = _
        rw [g5.i 24 (by omega), b24, wrap_i64 (by omega) (by omega)]
      have m22 : (assign q5 [⟨20, 0, .int .i64 (.var 39)⟩, ⟨22, 0, .int .i64 (.add (.var 22) (.lit 1))⟩, ⟨23, 0, .int .i64 (.var 40)⟩, ⟨24, 0, .int .i64 (.wrap .i64 (.add (.var 24) (.lit 1)))⟩] [(25, some 32), (26, some 39)]).i 22 = i + 1 := by
        show q5.i 22 + 1 = _
        rw [g5.i 22 (by omega), b22]
      refine ⟨⟨i + 1, by rw [m24]; omega, by rw [m22]; omega, by omega, a1, a2, ?_, ?_⟩, by rw [m24]; omega⟩
      · show DiskAt (q5.h 32) dp D1
        rw [g5.h 32 (by omega), g4.h 32 (by omega), g3.h 32 (by omega), hH3]; exact hD3
      · rw [m22]
        show NestO (q5.h 39) (.slice (slP (q5.i 39) 0) ((i : Int) + 1).toNat (q5.i 40).toNat) (rowsOf D1 frm (i + 1))
        have hown : ∀ b, (Value.slice (slP (q.i 20) 0) ((i : Int)).toNat (q.i 23).toNat).ownBlock = some b → (q.h 26).mem b := by
          intro b hb
          rcases hus.2 with ⟨h, _⟩ | ⟨gg, cap, cur, h, hg, _⟩
          · rw [h] at hb; cases hb
          · rw [h] at hb; cases hb
            unfold Hl.mem; rw [hg]; rfl
        have hd : ∀ b, (q.h 26).mem b → (q2.h 33).mem b → False := fun b h1 h2 => hdis b ⟨h1, h2⟩
        have hnew : ∀ b, ((q.h 26).un (q2.h 33)).mem b → some b ≠ (Value.slice (slP (q.i 20) 0) ((i : Int)).toNat (q.i 23).toNat).ownBlock → some b ≠ (Value.slice (slP (q5.i 39) 0) ((i : Int) + 1).toNat (q5.i 40).toNat).ownBlock := by
          intro b hb hne he
          rcases Int.lt_or_le (q5.i 39) 0 with hn | hn
          · have e1 : q5.i 39 = -1 := by omega
            rw [e1, slP_nil] at he; cases he
          · rw [slP_pos hn] at he
            have he : b = (q5.i 39).toNat := by simpa [Value.ownBlock] using he
            rcases a6 with h | h | h
            · exact hne (by rw [he]; exact h)
            · rw [← he] at h; exact h hb
            · omega
        have hkeep : ∀ b, ((q.h 26).un (q2.h 33)).mem b → some b ≠ (Value.slice (slP (q.i 20) 0) ((i : Int)).toNat (q.i 23).toNat).ownBlock → q5.h 39 b = ((q.h 26).un (q2.h 33)) b := fun b hb hne => a4 b hb hne
        have hcong : ∀ (A B : Hl) (b k : Nat), A b = B b → A.cell b k = B.cell b k := by
          intro A B b k h
          unfold Hl.cell
          rw [h]
        have hlt : ((i : Int)).toNat + 1 = (us ++ [Value.slice (slP (q2.i 32) (q2.i 33)) (q2.i 34).toNat (q2.i 35).toNat]).length := by
          rw [List.length_append, hil, Int.toNat_natCast]; rfl
        refine ⟨us ++ [Value.slice (slP (q2.i 32) (q2.i 33)) (q2.i 34).toNat (q2.i 35).toNat], ?_, ?_, ?_⟩
        · rw [← hlt]
          rw [c32, c33, c34, c35] at hx5
          rw [show ((i : Int) + 1).toNat = ((i : Int)).toNat + 1 by omega]
          exact hx5
        · rw [← hlt, rowsOf_length, Int.toNat_natCast]
        · intro j u r hu hr
          rw [rowsOf_succ] at hr
          rcases Nat.lt_or_ge j i with hj | hj
          · rw [List.getElem?_append_left (by omega)] at hu
            rw [List.getElem?_append_left (by rw [rowsOf_length]; omega)] at hr
            obtain ⟨xx, yy, cc, eu, hyy, hcc, hxx, hne, hmm, hcl⟩ := hur j u r hu hr
            have hm38 : ((q.h 26).un (q2.h 33)).mem xx.toNat := Hl.un_mem.2 (Or.inl hmm)
            have hat : q5.h 39 xx.toNat = q.h 26 xx.toNat := by
              rw [hkeep _ hm38 hne]
              obtain ⟨o, ho⟩ := Option.isSome_iff_exists.1 hmm
              rw [Hl.un_at_left ho, ho]
            refine ⟨xx, yy, cc, eu, hyy, hcc, hxx, hnew _ hm38 hne, by unfold Hl.mem; rw [hat]; exact hmm, fun k z hz => ?_⟩
            rw [hcong _ _ _ _ hat]
            exact hcl k z hz
          · rw [List.getElem?_append_right (by omega)] at hu
            rw [List.getElem?_append_right (by rw [rowsOf_length]; omega), rowsOf_length] at hr
            have hji : j - i = 0 := by
              rw [hil] at hu
              rcases Nat.eq_zero_or_pos (j - i) with h | h
              · exact h
              · rw [List.getElem?_eq_none (by simp; omega)] at hu; cases hu
            rw [hil, hji] at hu
            rw [hji] at hr
            have hu : Value.slice (slP (q2.i 32) (q2.i 33)) (q2.i 34).toNat (q2.i 35).toNat = u := by simpa using hu
            have hr : D1.sector (frm + i) = r := by simpa using hr
            subst hu hr
            have hne : some (q2.i 32).toNat ≠ (Value.slice (slP (q.i 20) 0) ((i : Int)).toNat (q.i 23).toNat).ownBlock := fun h => hd _ (hown _ h.symm) hmem
            have hm38 : ((q.h 26).un (q2.h 33)).mem (q2.i 32).toNat := Hl.un_mem.2 (Or.inr hmem)
            have hat : q5.h 39 (q2.i 32).toNat = q2.h 33 (q2.i 32).toNat := by
              rw [hkeep _ hm38 hne]
              exact Hl.un_at_right fun h => hd _ h hmem
            refine ⟨q2.i 32, q2.i 33, (q2.i 35).toNat, ?_, n33, ?_, p32, hnew _ hm38 hne, by unfold Hl.mem; rw [hat]; exact hmem, fun k z hz => ?_⟩
            · rw [e34, Int.toNat_natCast]
            · have : q2.i 34 = ((D1.sector (frm + i)).length : Nat) := e34
              omega
            · rw [hcong _ _ _ _ hat]
              exact hcb k z hz
    · rw [g1.i 20 (by omega)]; exact e20
    · show 0 ≤ q1.i 22
      rw [g1.i 22 (by omega), e22]; omega
    · show 0 ≤ q1.i 23
      rw [g1.i 23 (by omega)]; exact e23
    · show DiskAt (hls [q1.h 30]) _ _
      rw [hls_one]; exact hD2
    · have hin : ((D'.n : Int) - frm).toNat = i := by omega
      rw [hin]
      show SlC (hls [q1.h 26]) (.slice (slP (q1.i 20) 0) (q1.i 22).toNat (q1.i 23).toNat) _
      rw [hls_one, g1.h 26 (by omega), g1.i 20 (by omega), g1.i 22 (by omega), g1.i 23 (by omega)]
      exact hN.sl
end Go.Proofs.Ytnpepkjfeadbjaa
