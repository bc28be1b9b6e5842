/- A symbolic executor of functions that make, turn and share memory: operations in order, ways that fork, code, loops, functions. What it tells of a piece of code is proved to be what the machine does. -/
import Derived.LoopN
import Derived.Test.YtomdimlnggpgbaaDoorSxC
set_option linter.unusedSimpArgs false
set_option linter.unusedVariables false
set_option linter.constructorNameAsVariable false
namespace Go.Sx
open Go

section
variable {P : Program} {C : Ctx} {ms : Nat → Nat} {S : Nat → Prop} {w0 : World} {ρ ρ' : Env} {st : St} {mem mem' : Mem} {a : Act} {w w' : World}

theorem zeroT_info {t : TypeId} {i : TypeInfo} {z : Value} (hi : P.info? t = some i) (hz : i.zero = some z) : zeroT P t = some z := by simp [zeroT, hi, hz]

theorem makeE_sound (hA : Rel S w0 ρ st a w) (hu : st.upto st.nv = true) {t : TypeId} {x y : TV} {d : Option Tmp} {R : XR} (h : makeE P st t x y d = some R) (hn : R.need.holds C ms ρ)
    {K : Act → World → Prop} (hK : Fin S w0 C ρ st a d R K) : ∃ v' w', (Instr.makeSlice t (x.ev ρ) (y.ev ρ)).run P w = .ok v' w' ∧ K (a.put d v') w' := by
  unfold makeE at h
  split at h
  · rename_i el k l k' c ht
    split at h
    · rename_i hlc
      subst hlc
      split at h
      · rename_i i hi
        split at h
        · rename_i z hz
          split at h
          · rename_i hzs
            simp only at h
            have key : ∀ (r : Res), r.own = true → (∀ ρ', Agree st.nv ρ ρ' → 0 ≤ ρ'.i st.nv → ρ'.h st.nv = Hl.one (ρ'.i st.nv).toNat (.cells (madeCells z.cells ((iev ρ l).toNat * i.size)) el (0, 0)) → r.hl ρ' = ρ'.h st.nv ∧ r.pos ρ') →
                ∀ R' : XR, R' = ⟨({ st with mem := st.mem ++ [r], nv := st.nv + 1 } : St).put d (some (.sv (.one (.sl (.var st.nv) (.lit 0) l l)))), .pre (.mk st.nv el (z.cells.toList.map liftC) i.bytes l), some (.mk st.nv el (z.cells.toList.map liftC) i.bytes l)⟩ →
                R'.need.holds C ms ρ → Fin S w0 C ρ st a d R' K → ∃ v' w', (Instr.makeSlice t (.int k (iev ρ l)) (.int k' (iev ρ l))).run P w = .ok v' w' ∧ K (a.put d v') w' := by
              intro r hr hres R' hR' hn hK
              subst hR'
              obtain ⟨h0, hby, h63⟩ := hn
              have hrun := run_make (P := P) w t el i z ht hi hz k k' (iev ρ l) (iev ρ l) h0 (Int.le_refl _) hby h63
              let ob : Obj := .cells (madeCells z.cells ((iev ρ l).toNat * i.size)) el
              let ρ' := (ρ.setI st.nv w.heap.size).setH st.nv (Hl.one w.heap.size ob)
              have hg : Agree st.nv ρ ρ' := (agree_setI _ _ _ (Nat.le_refl _)).trans (agree_setH _ _ _ (Nat.le_refl _))
              have e1 : ρ'.i st.nv = w.heap.size := by show (ρ.setI st.nv w.heap.size).i st.nv = _; rw [setI_i]
              have e3 : ρ'.h st.nv = Hl.one w.heap.size ob := setH_h _ _ _
              have e3' : ρ'.h st.nv = Hl.one (ρ'.i st.nv).toNat (.cells (madeCells z.cells ((iev ρ l).toNat * i.size)) el (0, 0)) := by rw [e1, Int.toNat_natCast]; exact e3
              obtain ⟨hrh, hrp⟩ := hres ρ' hg (by rw [e1]; omega) e3'
              refine ⟨_, _, hrun, hK ρ' _ _ hg ⟨⟨by rw [e1]; omega, ?_⟩, rfl⟩ (Rel.step hA hu hg ?_ _ _ _ _ ?_)⟩
              · rw [e3', map_liftC]
                simp only [Array.toArray_toList, List.length_map, Array.length_toList, hzs.1]
              · refine hA.toMRel.add rfl rfl rfl (by simp) (fun b hb => RowKit.Below.heap_alloc w _ b hb) (Mem.agree hg (St.upto_mem hu)) ?_ hrp ?_
                · rw [hrh, e3]
                  intro b o hb
                  obtain ⟨rfl, rfl⟩ := Hl.one_eq hb
                  exact heap_alloc_new w _
                · intro b hb
                  rw [hrh, e3] at hb
                  rw [Hl.one_mem.1 hb]; exact Nat.le_refl _
              · intro u hu'
                cases hu'
                simp only [TV.ev, SV.ev, CV.ev, iev_var, iev_lit, e1, iev_agree hg hzs.2.2]
                rw [slP_pos (by omega)]
                simp
            have khp := key (.hp st.nv [] [.var st.nv] []) rfl (fun ρ' _ _ _ => ⟨rfl, trivial⟩)
            split at h
            · rename_i m
              split at h
              · cases h
                refine key (.blk st.nv (madeCVs (z.cells.toList.map liftC) (m.toNat * i.size)) el) rfl (fun ρ' hg h0 he => ⟨?_, h0⟩) _ rfl hn hK
                rw [he]
                show Hl.one _ _ = _
                have e := madeCVs_ev (ρ := ρ') (z := z.cells.toList.map liftC) (zs := z.cells.toList) (map_liftC _ _) (by rw [Array.length_toList]; omega) (m.toNat * i.size)
                rw [e]
                simp [iev_lit]
              · cases h; exact khp _ rfl hn hK
            · cases h; exact khp _ rfl hn hK
          · cases h
        · cases h
      · cases h
    · cases h
  · cases h

theorem bslE_sound (hA : Rel S w0 ρ st a w) (hu : st.upto st.nv = true) {t : TypeId} {len : Nat} {is : List Nat} {vs : List TV} {d : Option Tmp} {R : XR} (h : bslE P st t len is vs d = some R)
    {K : Act → World → Prop} (hK : Fin S w0 C ρ st a d R K) : ∃ v' w', (Instr.buildSlice t len (is.zip (vs.map (TV.ev ρ))).toArray).run P w = .ok v' w' ∧ K (a.put d v') w' := by
  unfold bslE at h
  split at h
  · rename_i el ht
    split at h
    · rename_i n z us hs hz hus
      split at h
      · rename_i hc
        split at h
        · rename_i l hl
          have hf := fillE_sound (ρ := ρ) _ _ _ hl
          have hbig : ¬ len * n > 2 ^ 24 := by omega
          refine ⟨.slice (some ⟨w.heap.size, 0, none⟩) len len, w.alloc (.cells (l.map (CV.ev ρ)).toArray el), ?_, newBlk_sound h hu hA hK rfl (fun ρ' hg hi => ?_)⟩
          · rw [svs_ev _ _ hus, ← zip_ev]
            unfold Instr.buildSlice
            simp only [Sem.run_bind, run_underlying ht, Result.andThen_ok, sizeT_run hs, hbig, if_false]
            have hfin : ∀ zz : Array Value, (Array.range (len * n)).map (fun j => zz[j % zz.size]!) = ((madeCVs (z.cells.toList.map liftC) (len * n)).map (CV.ev ρ)).toArray →
                Instr.fill (fun i => some (i * n, n)) ((Array.range (len * n)).map (fun j => zz[j % zz.size]!)) ((is.zip us).map fun (p : Nat × SV) => (p.1, SV.ev ρ p.2)) = some (l.map (CV.ev ρ)).toArray := by
              intro zz hz'
              rw [hz', hf]
            by_cases h0 : len * n = 0
            · rw [if_pos h0]
              simp only [Sem.run_bind, Sem.run_pure, Result.andThen_ok]
              rw [hfin #[] (by simp [h0, madeCVs])]
              rfl
            · rw [if_neg h0]
              simp only [Sem.run_bind, Sem.run_pure, Result.andThen_ok, zeroT_run hz]
              rw [hfin z.cells ?_]
              · rfl
              have hzp : 0 < z.cells.toList.length := by
                rw [Array.length_toList, hc.2]
                exact Nat.pos_of_ne_zero (fun e => h0 (by rw [e, Nat.mul_zero]))
              have e := madeCVs_ev (ρ := ρ) (z := z.cells.toList.map liftC) (zs := z.cells.toList) (map_liftC _ _) hzp (len * n)
              rw [e]
              simp only [madeCells, Array.toArray_toList]
          · simp only [TV.ev, SV.ev, CV.ev, iev_var, iev_lit, hi]
            rw [slP_pos (by omega)]
            simp
        · cases h
      · cases h
    · cases h
  · cases h

theorem enterB_run {f : FuncId} (h : enterB P f = true) (args : Array Value) (w : World) : (callFunc f args).run P w = .ok (.enter f args) w := by
  unfold enterB at h
  split at h
  · rename_i fn hf
    simp only [Bool.and_eq_true, Bool.not_eq_true'] at h
    unfold callFunc
    simp only [Sem.run_bind, program, Sem.run, Result.andThen_ok, hf, h.2, Bool.false_eq_true, if_false]
    cases hb : fn.body with
    | none => simp [hb] at h
    | some c => simp
  · cases h

theorem calleeOf_sound (hA : Rel S w0 ρ st a w) {c : Operand} {f : FuncId} (h : calleeOf st c = some f) : a.eval c = .func (.func f) #[] #[] := by
  unfold calleeOf at h
  split at h
  · cases h; rfl
  · rename_i t
    split at h
    · rename_i g x y hs
      split at h
      · rename_i hxy
        cases h
        simp only [Bool.and_eq_true, Array.isEmpty_iff] at hxy
        obtain ⟨rfl, rfl⟩ := hxy
        have := hA.tmp t _ hs
        simp [Act.eval, this, TV.ev, SV.ev, CV.ev]
      · cases h
    · cases h
  · cases h

theorem wp_call {o : Oper} {f : FuncId} {c : Operand} {args : Array Operand} {ts : Array TypeId} (hop : o.op = .call { callee := .value c, args, argTypes := ts }) (hcf : a.eval c = .func (.func f) #[] #[]) (he : enterB P f = true) {xs : List Value} (hx : args.toList.map a.eval = xs)
    {K : Act → World → Prop} {Q : Exit → Act → World → Prop} (hc : Calls P f xs.toArray w fun e w' => ∃ v, e = .returned v ∧ K (a.put o.dst v) w') : o.wp P a w K Q := by
  have e2 : args.map a.eval = xs.toArray := by rw [← hx]; obtain ⟨l⟩ := args; exact List.map_toArray
  have hrun : (execOp a.eval o).run P w = .ok (.enter f xs.toArray) w := by
    unfold execOp; rw [hop]
    simp only [resolve, hcf, Deferred.ofValue, Sem.run_bind, Sem.run_pure, Result.andThen_ok, invoke]
    rw [e2]
    simpa using enterB_run (P := P) he xs.toArray w
  unfold Oper.wp
  rw [hrun]
  refine hc.mono fun e w' ⟨v, he, hk⟩ => ?_
  subst he
  exact hk

theorem cbsE_sound (hA : Rel S w0 ρ st a w) (hu : st.upto st.nv = true) {o : Oper} {s d : TypeId} {y : Operand} (hop : o.op = .convert s d y) {x : TV} (hx : a.eval y = x.ev ρ) {R : XR} (h : cbsE P st s d x o.dst = some R)
    {K : Act → World → Prop} {Q : Exit → Act → World → Prop} (hK : Fin S w0 C ρ st a o.dst R K) : o.wp P a w K Q := by
  unfold cbsE at h
  split at h
  · rename_i hsd
    subst hsd
    split at h
    · rename_i el hs
      split at h
      · rename_i hu8
        obtain ⟨hu8, hup⟩ := hu8
        have he := isU8_eq hu8
        split at h
        · rename_i b y' l c
          split at h
          · rename_i p cs T hb
            cases h
            have hp := fBlk_sound hb
            have hpos : 0 ≤ ρ.i b := hA.pos _ (List.mem_of_getElem? hp)
            have hw := hA.toMRel.blk hp
            let o' : Obj := .cells (cs.map (CV.ev ρ)).toArray T (cs.length, cs.length + 1)
            let w' : World := w.freeze ⟨(ρ.i b).toNat, cs.length, none⟩ 1
            have hlt : (ρ.i b).toNat < w.heap.size := (Array.getElem?_eq_some_iff.1 hw).1
            have hw' : w'.heap[(ρ.i b).toNat]? = some o' := by
              show (w.freeze ⟨(ρ.i b).toNat, cs.length, none⟩ 1).heap[(ρ.i b).toNat]? = _
              unfold World.freeze
              rw [if_neg (by decide)]
              simp only [Array.getElem?_modify, if_true, hw, Option.map_some]
              rfl
            have hot : ∀ k, k ≠ (ρ.i b).toNat → w'.heap[k]? = w.heap[k]? := by
              intro k hk
              show (w.freeze ⟨(ρ.i b).toNat, cs.length, none⟩ 1).heap[k]? = _
              unfold World.freeze
              rw [if_neg (by decide)]
              simp only [Array.getElem?_modify, if_neg hk.symm]
            have hsz : w'.heap.size = w.heap.size := by
              show (w.freeze ⟨(ρ.i b).toNat, cs.length, none⟩ 1).heap.size = _
              unfold World.freeze
              rw [if_neg (by decide)]
              simp
            have hfr : w'.os = w.os ∧ w'.tape = w.tape ∧ w'.output = w.output := by
              show (w.freeze ⟨(ρ.i b).toNat, cs.length, none⟩ 1).os = _ ∧ (w.freeze ⟨(ρ.i b).toNat, cs.length, none⟩ 1).tape = _ ∧ (w.freeze ⟨(ρ.i b).toNat, cs.length, none⟩ 1).output = _
              unfold World.freeze
              rw [if_neg (by decide)]
              exact ⟨rfl, rfl, rfl⟩
            have ex : a.eval y = .slice (some ⟨(ρ.i b).toNat, (iev ρ y').toNat, none⟩) (iev ρ l).toNat (iev ρ c).toNat := by
              rw [hx]
              simp only [TV.ev, SV.ev, CV.ev, iev_var]
              rw [slP_pos hpos]
            have hrun : (execOp a.eval o).run P w = .ok (.value (a.eval y)) w' := by
              have hsh : w.shape? (ρ.i b).toNat = some (T, cs.length) := by
                unfold World.shape?
                rw [hw]; simp
              unfold execOp
              rw [hop]
              simp [convert, run_underlying hs, run_underlying he, markStringish, ex, hsh]
              rfl
            refine wp_value hrun ?_
            have hg : Agree st.nv ρ (ρ.setH st.nv (Hl.one (ρ.i b).toNat o')) := agree_setH _ _ _ (Nat.le_refl _)
            refine hK _ _ w' hg ⟨setH_h _ _ _, rfl⟩ (Rel.step hA hu hg ?_ _ _ _ _ (fun z hz => ?_))
            · refine hA.toMRel.set hp rfl hfr.1 hfr.2.1 hfr.2.2 (by omega) (fun k _ hk => hot k fun e => hk (by rw [e]; exact Hl.one_mem.2 rfl)) (Mem.agree hg (St.upto_mem hu)) ?_ trivial ?_
              · intro k ob hk
                rw [show (Res.hp st.nv [] [E.var b] []).hl (ρ.setH st.nv (Hl.one (ρ.i b).toNat o')) = Hl.one (ρ.i b).toNat o' from setH_h _ _ _] at hk
                obtain ⟨rfl, rfl⟩ := Hl.one_eq hk
                exact hw'
              · intro k hk
                rw [show (Res.hp st.nv [] [E.var b] []).hl (ρ.setH st.nv (Hl.one (ρ.i b).toNat o')) = Hl.one (ρ.i b).toNat o' from setH_h _ _ _] at hk
                left
                show (Hl.one (ρ.i b).toNat _).mem k
                exact Hl.one_mem.2 (Hl.one_mem.1 hk)
            · cases hz
              rw [hx]
              exact (TV.agree hg _ hup).symm
          · cases h
        · cases h
      · cases h
    · cases h
  · cases h

theorem extE_sound (hΓ : ∀ s ∈ C.Γ, s.OK P) (hA : Rel S w0 ρ st a w) {o : Oper} {R : XR} (h : extE P C.Γ st o = some R) (hn : R.need.holds C ms ρ)
    {K : Act → World → Prop} {Q : Exit → Act → World → Prop} (hK : Fin S w0 C ρ st a o.dst R K) : o.wp P a w K Q := by
  unfold extE at h
  split at h
  · rename_i hu
    split at h
    · rename_i t hop
      split at h
      · rename_i z hz
        have hrun : (execOp a.eval o).run P w = .ok (.value (.pointer (some ⟨w.heap.size, 0, none⟩))) (w.alloc (.cells z.cells t)) := by
          unfold execOp; rw [hop]
          simp only [Sem.run_bind, Instr.alloc, zeroT_run hz, Result.andThen_ok]
          rfl
        refine wp_value hrun (newBlk_sound h hu hA hK (by rw [map_liftC]) (fun ρ' hg hi => ?_))
        simp only [TV.ev, SV.ev, CV.ev, iev_var, iev_lit, hi]
        rw [slP_pos (by omega)]; simp
      · cases h
    · rename_i t x hop
      split at h
      · rename_i v hx
        split at h
        · rename_i hcell
          have ex := opnd_sound hA hx
          have hrun : (execOp a.eval o).run P w = .ok (.value (.pointer (some ⟨w.heap.size, 0, none⟩))) (w.alloc (.cells (v.ev ρ).cells t)) := by
            unfold execOp; rw [hop]
            simp only [Sem.run_bind, Instr.box, ex, TV.ev]
            rfl
          refine wp_value hrun (newBlk_sound h hu hA hK ?_ (fun ρ' hg hi => ?_))
          · rw [← SV.cells_ev v hcell]
          · simp only [TV.ev, SV.ev, CV.ev, iev_var, iev_lit, hi]
            rw [slP_pos (by omega)]; simp
        · cases h
      · cases h
    · rename_i t p x hop
      split at h
      · rename_i pv v hp hx
        have ep : a.eval p = pv.ev ρ := opnd_sound hA hp
        have ex : a.eval x = v.ev ρ := opnd_sound hA hx
        split at h
        · rename_i n mem hs
          cases h
          simp only [ndE_holds] at hn
          obtain ⟨q, w', hq, hrun, hm⟩ := storeE_inl hA.toMRel hs hn
          have hrun' : (execOp a.eval o).run P w = .ok .skip w' := by
            unfold execOp; rw [hop]
            simp only [Sem.run_bind, Instr.storeAt, ep, ex, hq, Instr.sureAddr, Sem.run_pure, Result.andThen_ok, hrun]
          exact wp_skip' hrun' (hK ρ _ w' (Agree.refl _ _) rfl (Rel.put (st := { st with mem := mem }) ⟨hm, hA.size, hA.defers, hA.tmp, hA.path⟩ _ _ _ (fun y hy => by cases hy)))
        · rename_i x' mem hs
          cases h
          obtain ⟨q, w', ρ', hq, hrun, hg, hrel, hxn, hm⟩ := storeE_inr hA hu hs hn
          have hrun' : (execOp a.eval o).run P w = .ok .skip w' := by
            unfold execOp; rw [hop]
            simp only [Sem.run_bind, Instr.storeAt, ep, ex, hq, Instr.sureAddr, Sem.run_pure, Result.andThen_ok, hrun]
          exact wp_skip' hrun' (hK ρ' _ w' hg ⟨hrel, hxn⟩ (Rel.step hA hu hg hm _ _ _ _ (fun y hy => by cases hy)))
        · cases h
      · cases h
    · rename_i t l c hop
      split at h
      · rename_i x y hl hc
        obtain ⟨v', w', hrun, hk⟩ := makeE_sound hA hu h hn hK
        refine wp_value (v := v') (w' := w') ?_ hk
        unfold execOp; rw [hop]
        simp only [Sem.run_bind, opnd_sound hA hl, opnd_sound hA hc, hrun, Result.andThen_ok, Sem.run_pure]
      · cases h
    · rename_i t len parts hop
      split at h
      · rename_i vs hx
        obtain ⟨v', w', hrun, hk⟩ := bslE_sound hA hu h hK
        refine wp_value (v := v') (w' := w') ?_ hk
        have e1 := opnds_sound hA _ _ hx
        have e2 : (parts.map fun p => (p.1, a.eval p.2)) = ((parts.toList.map (·.1)).zip (vs.map (TV.ev ρ))).toArray := by
          rw [← e1, List.map_map, ← map_zip2 parts.toList]
          obtain ⟨l⟩ := parts; exact List.map_toArray
        unfold execOp; rw [hop]
        rw [← e2] at hrun
        simp only [Sem.run_bind, hrun, Result.andThen_ok, Sem.run_pure]
      · cases h
    · rename_i args ats hop
      split at h
      · rename_i x y t t' ha hts
        split at h
        · rename_i htt
          subst htt
          split at h
          · rename_i vx vy hx hy
            obtain ⟨v', w', hrun, hk⟩ := appE_sound (ty := o.type) hA hu h hn hK
            refine wp_value (v := v') (w' := w') ?_ hk
            have ea : args.map a.eval = #[vx.ev ρ, vy.ev ρ] := by
              obtain ⟨l⟩ := args
              simp only at ha
              subst ha
              simp [opnd_sound hA hx, opnd_sound hA hy]
            have et : ats = #[t, t] := by obtain ⟨l⟩ := ats; simp only at hts; rw [hts]
            obtain ⟨dst, op, ty, pos, af, gd⟩ := o
            simp only at hop
            subst hop
            rw [BigFrame.execOp_builtin, ea, et]
            unfold builtin
            simp only [Sem.run_bind, hrun, Result.andThen_ok, Sem.run_pure]
          · cases h
        · cases h
      · cases h
    · rename_i args ats hop
      split at h
      · rename_i x y t t' ha hts
        split at h
        · rename_i vx vy hx hy
          obtain ⟨v', w', hrun, hk⟩ := copyE_sound (t' := t') (ty := o.type) hA h hn hK
          refine wp_value (v := v') (w' := w') ?_ hk
          have ea : args.map a.eval = #[vx.ev ρ, vy.ev ρ] := by
            obtain ⟨l⟩ := args
            simp only at ha
            subst ha
            simp [opnd_sound hA hx, opnd_sound hA hy]
          have et : ats = #[t, t'] := by obtain ⟨l⟩ := ats; simp only at hts; rw [hts]
          obtain ⟨dst, op, ty, pos, af, gd⟩ := o
          simp only at hop
          subst hop
          rw [BigFrame.execOp_builtin, ea, et]
          unfold builtin
          simp only [Sem.run_bind, hrun, Result.andThen_ok, Sem.run_pure]
        · cases h
      · cases h
    · rename_i s d x hop
      split at h
      · rename_i x hx
        exact cbsE_sound hA hu hop (opnd_sound hA hx) h hK
      · cases h
    · rename_i t hop
      exact mapE_sound hA hu (by rw [hop]; exact h) hn hK
    · rename_i t m k ok hop
      exact mapE_sound hA hu (by rw [hop]; exact h) hn hK
    · rename_i t m k v hop
      exact mapE_sound hA hu (by rw [hop]; exact h) hn hK
    · rename_i args ats hop
      exact mapE_sound hA hu (by rw [hop]; exact h) hn hK
    · rename_i c args ats hop
      split at h
      · rename_i f vs hc hx
        split at h
        · rename_i he
          exact wp_call hop (calleeOf_sound hA hc) he (opnds_sound hA _ _ hx) (callE_sound hΓ hA hu h hn hK)
        · cases h
      · cases h
    · cases h
  · cases h
end
end Go.Sx

namespace Go.Sx
open Go

inductive Tag | norm | ret | exit (id : Nat)
  deriving DecidableEq
def exitOf : Tag → Exit
  | .norm => .normal
  | .ret => .ret
  | .exit i => .exit i
abbrev Kont := Tag → St → Option Nd

/-! ### What must hold -/
def conjs : E → List E
  | .and a b => conjs a ++ conjs b
  | e => [e]
def needE (path : List E) (n : E) : List E := (conjs n).filter fun c => !(known path c == some true)
def needAnd : List E → Nd → Nd
  | [], a => a
  | c :: l, a => ndAnd (ndE c) (needAnd l a)
def needK (st : St) (n : E) (k : St → Option Nd) : Option Nd :=
  let cs := needE st.path n
  (k { st with path := cs ++ st.path }).map (needAnd cs)

theorem conjs_all {ρ : Env} : ∀ n : E, (∀ c ∈ conjs n, bev ρ c = true) → bev ρ n = true := by
  intro n
  induction n with
  | and a b iha ihb =>
    intro h
    simp only [conjs, List.mem_append] at h
    rw [bev_and, iha (fun c hc => h c (Or.inl hc)), ihb (fun c hc => h c (Or.inr hc))]; rfl
  | _ => intro h; exact h _ (by simp [conjs])

/-! ### Guards -/
/-- What a skipped operation leaves. -/
def skipTV : TV := .sv (.one (.val undef))
def notBool : Value → Bool
  | .bool _ => false
  | _ => true
def guardE (ops : List Oper) (st : St) (o : Oper) : Option (Option (E × Bool)) :=
  match o.guard with
  | none => some none
  | some (j, want) => match (ops[j]?).bind (·.dst) with
    | some t => match st.tmps[t]? with
      | some (some (.sv (.one (.bool e)))) => some (some (e, want))
      | some (some (.sv (.one (.val v)))) => if notBool v then some (some (.ff, true)) else none
      | _ => none
    | none => none

/-! ### A function entered in place -/
def resultsE (P : Program) (st : St) : List ResultVar → Option (E × List SV)
  | [] => some (.tt, [])
  | .tmp t :: l => match opnd st (.tmp t), resultsE P st l with
    | some (.sv v), some (m, vs) => some (m, v :: vs)
    | _, _ => none
  | .cell t ty :: l => match opnd st (.tmp t), resultsE P st l with
    | some (.sv (.one c)), some (m, vs) => match loadE P st.mem ty c with
      | some (k, v) => some (mkAnd k m, v :: vs)
      | none => none
    | _, _ => none
def outOf : List SV → TV
  | [v] => .sv v
  | l => .tup l

abbrev Ex := Nat → List Nat → Code → St → Kont → Option Nd
def inlineK (P : Program) (ex : Ex) (d : Nat) (f : FuncId) (args : List TV) (st : St) (k : TV → St → Option Nd) : Option Nd :=
  match P.funcs[f]? with
  | some fn => match fn.body with
    | some c => ex d [f] c ⟨args.map some ++ List.replicate (fn.ntmps - args.length) none, st.mem, st.nv, st.path⟩ fun t s => match t with
      | .exit _ => none
      | _ => match resultsE P s fn.results.toList with
        | some (n, vs) => needK s n fun s => k (outOf vs) s
        | none => none
    | none => none
  | none => none

/-! ### Operations -/
/-- Pieces that become one ahead of an operation. -/
def mrgK (P : Program) (o : Oper) (k : St → Option Nd) : Nat → St → Option Nd
  | 0, st => k st
  | n + 1, st => match mrgOf P st o with
    | some (s, x) => (mrgK P o k n s).map (.ext x ·)
    | none => k st
def stepK (P : Program) (Γ : List Spec) (ex : Ex) (d : Nat) (o : Oper) (st : St) (k : St → Option Nd) : Option Nd :=
  match quiet P st o.op with
  | some (n, v) => needK st n fun st => k (st.put o.dst (some v))
  | none => mrgK P o (fun st => match extE P Γ st o with
    | some R => if st.nv ≤ R.st.nv then (k R.st).map fun nd => ndAnd R.need (match R.x with | some x => .ext x nd | none => nd) else none
    | none => match o.op with
      | .call { callee := .value c, args, argTypes := _ } => match calleeOf st c, opnds st args.toList with
        | some f, some vs => if enterB P f && st.upto st.nv then inlineK P ex d f vs st fun r s => if st.nv ≤ s.nv then k (({ s with tmps := st.tmps } : St).put o.dst (some r)) else none else none
        | _, _ => none
      | .panic _ => some (.e .ff)
      | .makeInterface _ _ => some (.e .ff)
      | _ => none) 4 st

def execOps (P : Program) (Γ : List Spec) (ex : Ex) (d : Nat) (ops : List Oper) : List Oper → St → (St → Option Nd) → Option Nd
  | [], st, k => k st
  | o :: l, st, k => match guardE ops st o with
    | none => none
    | some none => stepK P Γ ex d o st fun s => if st.nv ≤ s.nv then execOps P Γ ex d ops l s k else none
    | some (some (e, want)) => match known st.path e with
      | some b => if b = want then stepK P Γ ex d o st fun s => if st.nv ≤ s.nv then execOps P Γ ex d ops l s k else none else execOps P Γ ex d ops l (st.put o.dst (some skipTV)) k
      | none =>
        let y := if want then e else mkNot e
        match stepK P Γ ex d o { st with path := y :: st.path } fun s => if st.nv ≤ s.nv then execOps P Γ ex d ops l s k else none, execOps P Γ ex d ops l (({ st with path := mkNot y :: st.path } : St).put o.dst (some skipTV)) k with
        | some a, some b => some (ndAnd (ndImp y a) (ndImp (mkNot y) b))
        | _, _ => none

section
variable {P : Program} {C : Ctx} {ms : Nat → Nat} {S : Nat → Prop} {w0 : World} {ρ ρ' : Env} {st : St} {mem mem' : Mem} {a : Act} {w w' : World}

/-- What follows is right. -/
def KOK (S : Nat → Prop) (w0 : World) (C : Ctx) (d : Nat) (ms : Nat → Nat) (n : Nat) (ρ : Env) (k : St → Option Nd) (K : Act → World → Prop) : Prop :=
  ∀ ms' st' nd ρ' a' w', (∀ i, i < d → ms' i = ms i) → k st' = some nd → Agree n ρ ρ' → Rel S w0 ρ' st' a' w' → nd.holds C ms' ρ' → K a' w'
theorem KOK.of_agree {d n m : Nat} {ms' : Nat → Nat} {k : St → Option Nd} {K : Act → World → Prop} (h : KOK S w0 C d ms n ρ k K) (hm' : ∀ i, i < d → ms' i = ms i) (hg : Agree n ρ ρ') (hm : n ≤ m) : KOK S w0 C d ms' m ρ' k K :=
  fun ms'' st' nd ρ'' a' w' hms hk hg' hA hn => h ms'' st' nd ρ'' a' w' (fun i hi => (hms i hi).trans (hm' i hi)) hk (hg.trans (hg'.mono hm)) hA hn

theorem Rel.path_add (hA : Rel S w0 ρ st a w) {cs : List E} (h : ∀ c ∈ cs, bev ρ c = true) : Rel S w0 ρ { st with path := cs ++ st.path } a w :=
  ⟨hA.toMRel, hA.size, hA.defers, hA.tmp, fun e he => (List.mem_append.1 he).elim (h e) (hA.path e)⟩
theorem Rel.path_cons (hA : Rel S w0 ρ st a w) {c : E} (h : bev ρ c = true) : Rel S w0 ρ { st with path := c :: st.path } a w :=
  hA.path_add (cs := [c]) (fun x hx => by rw [List.mem_singleton.1 hx]; exact h)

theorem needAnd_holds : ∀ (cs : List E) (a : Nd), (needAnd cs a).holds C ms ρ → (∀ c ∈ cs, bev ρ c = true) ∧ a.holds C ms ρ
  | [], a, h => ⟨by simp, h⟩
  | c :: l, a, h => by
    simp only [needAnd, ndAnd_holds, ndE_holds] at h
    obtain ⟨h1, h2⟩ := needAnd_holds l a h.2
    exact ⟨fun x hx => (List.mem_cons.1 hx).elim (fun e => e ▸ h.1) (h1 x), h2⟩

theorem needK_sound {n : E} {k : St → Option Nd} {nd : Nd} (h : needK st n k = some nd) (hA : Rel S w0 ρ st a w) (hn : nd.holds C ms ρ) :
    bev ρ n = true ∧ ∃ st' nd', k st' = some nd' ∧ st' = { st with path := needE st.path n ++ st.path } ∧ Rel S w0 ρ st' a w ∧ nd'.holds C ms ρ := by
  unfold needK at h
  simp only [Option.map_eq_some_iff] at h
  obtain ⟨nd', hk, rfl⟩ := h
  obtain ⟨h1, h2⟩ := needAnd_holds _ _ hn
  refine ⟨conjs_all n fun c hc => ?_, _, nd', hk, rfl, hA.path_add h1, h2⟩
  by_cases hk : known st.path c = some true
  · exact known_sound hA.path hk
  · exact h1 c (by unfold needE; rw [List.mem_filter]; exact ⟨hc, by simpa using hk⟩)

def wantB (ρ : Env) : Option (E × Bool) → Bool
  | none => true
  | some q => bev ρ q.1 == q.2
theorem guard_sound (hr : Rel S w0 ρ st a w) {ops : List Oper} {o : Oper} {g : Option (E × Bool)} (h : guardE ops st o = some g) :
    Region.wanted o (yielded ops.toArray a.tmps) = wantB ρ g := by
  unfold guardE at h
  unfold Region.wanted
  split at h
  · rename_i hg; cases h; simp only [hg, wantB]
  · rename_i j want hg
    simp only [hg]
    split at h
    · rename_i t ht
      split at h
      · rename_i e hs
        cases h
        have := hr.tmp t _ hs
        have hy : yielded ops.toArray a.tmps j = some (bev ρ e) := by
          unfold yielded
          have e1 : (ops.toArray[j]?).bind (·.dst) = some t := by simpa using ht
          rw [e1]
          simp only [Option.bind_some, this, TV.ev, SV.ev, CV.ev]
        rw [hy]
        simp [wantB]
      · rename_i v hs
        split at h
        · rename_i hv
          cases h
          have := hr.tmp t _ hs
          have hy : yielded ops.toArray a.tmps j = none := by
            unfold yielded
            have e1 : (ops.toArray[j]?).bind (·.dst) = some t := by simpa using ht
            rw [e1]
            simp only [Option.bind_some, this, TV.ev, SV.ev, CV.ev]
            cases v <;> simp [notBool] at hv ⊢
          rw [hy]
          simp [wantB, bev_ff]
        · cases h
      · cases h
    · cases h

/-! ### Results -/
theorem resultsE_sound (hA : Rel S w0 ρ st a w) : ∀ (l : List ResultVar) (n : E) (vs : List SV), resultsE P st l = some (n, vs) → bev ρ n = true →
    (l.mapM fun (x : ResultVar) => match x with
      | .tmp t => (pure (a.tmps.getD t undef) : Sem Value)
      | .cell p t => do loadVar t (← asAddr (a.tmps.getD p undef))).run P w = .ok (vs.map (SV.ev ρ)) w
  | [], n, vs, h, _ => by cases h; rfl
  | .tmp t :: l, n, vs, h, hn => by
    simp only [resultsE] at h
    split at h
    · rename_i v m vs' h1 h2
      cases h
      have e1 := opnd_sound hA h1
      simp only [Act.eval, TV.ev] at e1
      have ih := resultsE_sound hA l _ _ h2 hn
      simp only [List.mapM_cons, Sem.run_bind, Sem.run_pure, Result.andThen_ok, ih, List.map_cons]
      rw [← e1]
    · cases h
  | .cell p t :: l, n, vs, h, hn => by
    simp only [resultsE] at h
    split at h
    · rename_i c m vs' h1 h2
      split at h
      · rename_i k v hl
        cases h
        rw [bev_mkAnd, Bool.and_eq_true] at hn
        have e1 := opnd_sound hA h1
        obtain ⟨q, hq, hrun⟩ := loadE_sound hA.toMRel hl hn.1
        simp only [Act.eval, TV.ev, SV.ev, hq] at e1
        have ih := resultsE_sound hA l _ _ h2 hn.2
        have ea : (asAddr (a.tmps.getD p undef)).run P w = .ok q w := by rw [e1]; rfl
        simp only [List.mapM_cons, Sem.run_bind, ea, Sem.run_pure, Result.andThen_ok, hrun, ih, List.map_cons]
      · cases h
    · cases h

theorem results_sound (hA : Rel S w0 ρ st a w) {fn : Func} {n : E} {vs : List SV} (h : resultsE P st fn.results.toList = some (n, vs)) (hn : bev ρ n = true) :
    (results fn a.tmps).run P w = .ok ((outOf vs).ev ρ) w := by
  have key := resultsE_sound hA _ _ _ h hn
  unfold results
  have hm : (fn.results.mapM fun (x : ResultVar) => match x with
      | .tmp t => (pure (a.tmps.getD t undef) : Sem Value)
      | .cell p t => do loadVar t (← asAddr (a.tmps.getD p undef))).run P w = .ok (vs.map (SV.ev ρ)).toArray w := by
    generalize fn.results = rs at *
    obtain ⟨l⟩ := rs
    simp only [List.mapM_toArray, Sem.run_map, key, Result.andThen_ok]
  simp only [Sem.run_bind]
  refine (congrArg (fun r => Result.andThen r _) hm).trans ?_
  simp only [Result.andThen_ok, Sem.run_pure]
  congr 1
  match vs with
  | [] => simp [outOf, TV.ev]
  | [v] => simp [outOf, TV.ev]
  | v :: u :: l => simp [outOf, TV.ev]
end
end Go.Sx

namespace Go.Sx
open Go

/-! ### A state that is another one's instance -/
abbrev MA := Option (List As × List (Nat × Option Nat))
def mI (n0 : Nat) (t e : E) : Option (List As) :=
  match t with
  | .var n => if n0 ≤ n then some [⟨n, 0, .int .i64 e⟩] else if t = e then some [] else none
  | t => if t = e ∧ t.upto n0 = true then some [] else none
def mB (n0 : Nat) (t e : E) : Option (List As) :=
  match t with
  | .bvar n => if n0 ≤ n then some [⟨n, 1, .bool e⟩] else if t = e then some [] else none
  | t => if t = e ∧ t.upto n0 = true then some [] else none
def mS (n0 : Nat) (t e : E) : Option (List As) :=
  match t with
  | .svar n => if n0 ≤ n then some [⟨n, 2, .str e⟩] else if t = e then some [] else none
  | t => if t = e ∧ t.upto n0 = true then some [] else none
def app2 : Option (List As) → Option (List As) → Option (List As)
  | some a, some b => some (a ++ b)
  | _, _ => none
/-- The same place. -/
def samePl : CV → CV → Bool
  | .pti a o s n i, .pti a' o' s' n' i' => decide (a = a') && decide (o = o') && decide (s = s') && decide (n = n') && decide (i = i')
  | .hv h x y j, .hv h' x' y' j' => decide (h = h') && decide (x = x') && decide (y = y') && decide (j = j')
  | .clo f x, .clo f' x' => decide (f = f') && decide (x = x')
  | _, _ => false
theorem samePl_eq {a b : CV} (h : samePl a b = true) : a = b := by
  unfold samePl at h
  split at h
  · simp only [Bool.and_eq_true, decide_eq_true_eq] at h; obtain ⟨⟨⟨⟨rfl, rfl⟩, rfl⟩, rfl⟩, rfl⟩ := h; rfl
  · simp only [Bool.and_eq_true, decide_eq_true_eq] at h; obtain ⟨⟨⟨rfl, rfl⟩, rfl⟩, rfl⟩ := h; rfl
  · simp only [Bool.and_eq_true, decide_eq_true_eq] at h; obtain ⟨rfl, rfl⟩ := h; rfl
  · cases h
def mCV (n0 : Nat) (t c : CV) : Option (List As) :=
  match t, c with
  | .int k e, .int k' e' => if k = k' then mI n0 e e' else none
  | .bool e, .bool e' => mB n0 e e'
  | .str e, .str e' => mS n0 e e'
  | .hptr x y, .hptr x' y' => app2 (mI n0 x x') (mI n0 y y')
  | .sl x y l c, .sl x' y' l' c' => app2 (app2 (mI n0 x x') (mI n0 y y')) (app2 (mI n0 l l') (mI n0 c c'))
  | .map x, .map x' => mI n0 x x'
  | .vr n, c => if n0 ≤ n then some [⟨n, 3, c⟩] else match c with
    | .vr m => if n = m then some [] else none
    | _ => none
  | .val v, .val v' => if sameV v v' then some [] else none
  | t, c => if samePl t c = true ∧ t.upto n0 = true then some [] else none
def mL (n0 : Nat) : List CV → List CV → Option (List As)
  | [], [] => some []
  | a :: l, b :: m => app2 (mCV n0 a b) (mL n0 l m)
  | _, _ => none
def mSVs (n0 : Nat) : List SV → List SV → Option (List As)
  | [], [] => some []
  | .one a :: l, .one b :: m => app2 (mCV n0 a b) (mSVs n0 l m)
  | .agg a :: l, .agg b :: m => app2 (mL n0 a b) (mSVs n0 l m)
  | _, _ => none
def mTV (n0 : Nat) : TV → TV → Option (List As)
  | .sv (.one a), .sv (.one b) => mCV n0 a b
  | .sv (.agg l), .sv (.agg m) => mL n0 l m
  | .tup l, .tup m => mSVs n0 l m
  | _, _ => none
def mTmps (n0 : Nat) : List (Option TV) → List (Option TV) → Option (List As)
  | [], [] => some []
  | none :: l, _ :: m => mTmps n0 l m
  | some a :: l, some b :: m => app2 (mTV n0 a b) (mTmps n0 l m)
  | _, _ => none
def mRes (n0 : Nat) (t : Res) (r : Option Res) : MA :=
  match t, r with
  | .dead, _ => some ([], [])
  | .blk a l T, some (.blk a' l' T') => if T = T' then
      if n0 ≤ a then (mL n0 l l').map fun A => (⟨a, 0, .int .i64 (.var a')⟩ :: A, []) else if a = a' then (mL n0 l l').map fun A => (A, []) else none
    else none
  | .hp k _ _ _, some (.hp k' _ _ _) => if n0 ≤ k then some ([], [(k, some k')]) else if k = k' then some ([], []) else none
  | .hp k _ _ _, some .dead => if n0 ≤ k then some ([], [(k, none)]) else none
  | .hp k _ _ _, none => if n0 ≤ k then some ([], [(k, none)]) else none
  | .ro k _ _, some (.ro k' _ _) => if k < n0 ∧ k = k' then some ([], []) else none
  | _, _ => none
def mMem (n0 : Nat) : Mem → Mem → MA
  | [], _ => some ([], [])
  | r :: l, m => match mRes n0 r m.head?, mMem n0 l m.tail with
    | some (a, h), some (b, g) => some (a ++ b, h ++ g)
    | _, _ => none
def distinctA : List As → Bool
  | [] => true
  | a :: l => (l.all fun x => !(x.n == a.n && x.k == a.k)) && distinctA l
def distinctH : List (Nat × Option Nat) → Bool
  | [] => true
  | a :: l => (l.all fun x => !(x.1 == a.1)) && distinctH l
/-- The template's new variables, from n0 on. -/
def mSt0 (n0 : Nat) (h s : St) : MA :=
  match mTmps n0 h.tmps s.tmps, mMem n0 h.mem s.mem with
  | some a, some (b, g) => if distinctA (a ++ b) && distinctH g && ((a ++ b).all fun x => decide (n0 ≤ x.n)) && (g.all fun x => decide (n0 ≤ x.1)) && (h.path.all fun e => e.upto n0 && s.path.contains e) && decide (n0 ≤ h.nv) then some (a ++ b, g) else none
  | _, _ => none

/-- Two pieces change their places. -/
def swapM (m : Mem) (p q : Nat) : Mem := match m[p]?, m[q]? with
  | some a, some b => (m.set p b).set q a
  | _, _ => m
def padM (m : Mem) (n : Nat) : Mem := m ++ List.replicate (n - m.length) .dead
/-- Each piece of a pointer that varies comes to the place that the template gives it. -/
def fixM (n0 : Nat) (A : List As) : Mem → Nat → Mem → Mem
  | [], _, m => m
  | .hp k _ (.var a :: _) _ :: l, p, m => fixM n0 A l (p + 1) (if n0 ≤ k ∧ n0 ≤ a then match A.find? (fun x => x.n == a && x.k == 0) with
      | some ⟨_, _, .int _ e⟩ => match posOf m e with
        | some (q, r) => if r.own = true then swapM m p q else m
        | none => m
      | _ => m
    else m)
  | _ :: l, p, m => fixM n0 A l (p + 1) m
def mSt (n0 : Nat) (h s : St) : MA := match mTmps n0 h.tmps s.tmps with
  | some A => match mSt0 n0 h { s with mem := fixM n0 A h.mem 0 (padM s.mem h.mem.length) } with
    | some r => some r
    | none => mSt0 n0 h s
  | none => none

section
variable {P : Program} {C : Ctx} {ms : Nat → Nat} {S : Nat → Prop} {w0 : World} {ρ ρ' : Env} {st : St} {mem mem' : Mem} {a : Act} {w w' : World} {n0 : Nat} {A : List As} {hs : List (Nat × Option Nat)}

theorem assign_agree (hA : A.all (fun x => decide (n0 ≤ x.n)) = true) (hh : hs.all (fun x => decide (n0 ≤ x.1)) = true) : Agree n0 ρ (assign ρ A hs) := by
  rw [List.all_eq_true] at hA hh
  have key : ∀ k j, k < n0 → A.find? (fun a => a.n == k && a.k == j) = none := fun k j hk => by
    rw [List.find?_eq_none]
    intro x hx
    have := hA x hx
    simp only [decide_eq_true_eq] at this
    simp; omega
  refine ⟨fun k hk => ?_, fun k hk => ?_, fun k hk => ?_, fun k hk => ?_, fun k hk => ?_⟩
  · simp only [assign, key k 0 hk]
  · simp only [assign, key k 1 hk]
  · simp only [assign, key k 2 hk]
  · simp only [assign, key k 3 hk]
  · have : hs.find? (fun p => p.1 == k) = none := by
      rw [List.find?_eq_none]
      intro x hx
      have := hh x hx
      simp only [decide_eq_true_eq] at this
      simp; omega
    simp only [assign, this]

theorem distinctA_find : ∀ {A : List As}, distinctA A = true → ∀ x ∈ A, A.find? (fun a => a.n == x.n && a.k == x.k) = some x
  | [], _, _, h => by cases h
  | y :: l, h, x, hx => by
    simp only [distinctA, Bool.and_eq_true, List.all_eq_true, Bool.not_eq_true'] at h
    rw [List.find?_cons]
    rcases List.mem_cons.1 hx with rfl | hx
    · simp
    · have := h.1 x hx
      have hb : (y.n == x.n && y.k == x.k) = false := by
        rw [← this]; congr 1 <;> exact Bool.beq_comm
      rw [hb]
      exact distinctA_find h.2 x hx
theorem distinctH_find : ∀ {A : List (Nat × Option Nat)}, distinctH A = true → ∀ x ∈ A, A.find? (fun a => a.1 == x.1) = some x
  | [], _, _, h => by cases h
  | y :: l, h, x, hx => by
    simp only [distinctH, Bool.and_eq_true, List.all_eq_true, Bool.not_eq_true'] at h
    rw [List.find?_cons]
    rcases List.mem_cons.1 hx with rfl | hx
    · simp
    · have := h.1 x hx
      have hb : (y.1 == x.1) = false := by rw [← this]; exact Bool.beq_comm
      rw [hb]
      exact distinctH_find h.2 x hx

section
variable (hd : distinctA A = true) (hall : A.all (fun x => decide (n0 ≤ x.n)) = true) (hh : hs.all (fun x => decide (n0 ≤ x.1)) = true) (hdh : distinctH hs = true)
include hd hall hh

theorem mI_sound {t e : E} {x : List As} (hm : mI n0 t e = some x) (hx : ∀ y ∈ x, y ∈ A) : iev (assign ρ A hs) t = iev ρ e := by
  have hg : Agree n0 ρ (assign ρ A hs) := assign_agree hall hh
  unfold mI at hm
  split at hm
  · rename_i n
    split at hm
    · cases hm
      have := distinctA_find hd _ (hx _ (List.mem_singleton.2 rfl))
      simp only [iev_var, assign, this, CV.ev, valI]
    · split at hm
      · rename_i he; subst he; exact iev_agree hg (by simp only [E.upto, decide_eq_true_eq]; omega)
      · cases hm
  · split at hm
    · rename_i hc
      obtain ⟨rfl, hu⟩ := hc
      exact iev_agree hg hu
    · cases hm
theorem mB_sound {t e : E} {x : List As} (hm : mB n0 t e = some x) (hx : ∀ y ∈ x, y ∈ A) : bev (assign ρ A hs) t = bev ρ e := by
  have hg : Agree n0 ρ (assign ρ A hs) := assign_agree hall hh
  unfold mB at hm
  split at hm
  · rename_i n
    split at hm
    · cases hm
      have := distinctA_find hd _ (hx _ (List.mem_singleton.2 rfl))
      simp only [bev_bvar, assign, this, CV.ev, valB]
    · split at hm
      · rename_i he; subst he; exact bev_agree hg (by simp only [E.upto, decide_eq_true_eq]; omega)
      · cases hm
  · split at hm
    · rename_i hc
      obtain ⟨rfl, hu⟩ := hc
      exact bev_agree hg hu
    · cases hm
theorem mS_sound {t e : E} {x : List As} (hm : mS n0 t e = some x) (hx : ∀ y ∈ x, y ∈ A) : sev (assign ρ A hs) t = sev ρ e := by
  have hg : Agree n0 ρ (assign ρ A hs) := assign_agree hall hh
  unfold mS at hm
  split at hm
  · rename_i n
    split at hm
    · cases hm
      have := distinctA_find hd _ (hx _ (List.mem_singleton.2 rfl))
      simp only [sev_svar, assign, this, CV.ev, valS]
    · split at hm
      · rename_i he; subst he; exact sev_agree hg (by simp only [E.upto, decide_eq_true_eq]; omega)
      · cases hm
  · split at hm
    · rename_i hc
      obtain ⟨rfl, hu⟩ := hc
      exact sev_agree hg hu
    · cases hm

omit hd hall hh in
theorem app2_some {x y : Option (List As)} {z : List As} (h : app2 x y = some z) : ∃ u v, x = some u ∧ y = some v ∧ z = u ++ v := by
  unfold app2 at h; split at h
  · cases h; exact ⟨_, _, rfl, rfl, rfl⟩
  · cases h

theorem mCV_sound {t c : CV} {x : List As} (hm : mCV n0 t c = some x) (hx : ∀ y ∈ x, y ∈ A) : t.ev (assign ρ A hs) = c.ev ρ := by
  unfold mCV at hm
  split at hm
  · split at hm
    · rename_i hk; subst hk
      simp only [CV.ev, mI_sound hd hall hh hm hx]
    · cases hm
  · simp only [CV.ev, mB_sound hd hall hh hm hx]
  · simp only [CV.ev, mS_sound hd hall hh hm hx]
  · obtain ⟨u, v, h1, h2, rfl⟩ := app2_some hm
    simp only [CV.ev, mI_sound hd hall hh h1 (fun y hy => hx y (List.mem_append_left _ hy)), mI_sound hd hall hh h2 (fun y hy => hx y (List.mem_append_right _ hy))]
  · obtain ⟨u, v, h1, h2, rfl⟩ := app2_some hm
    obtain ⟨u1, u2, h11, h12, rfl⟩ := app2_some h1
    obtain ⟨v1, v2, h21, h22, rfl⟩ := app2_some h2
    simp only [CV.ev, mI_sound hd hall hh h11 (fun y hy => hx y (by simp [hy])), mI_sound hd hall hh h12 (fun y hy => hx y (by simp [hy])), mI_sound hd hall hh h21 (fun y hy => hx y (by simp [hy])), mI_sound hd hall hh h22 (fun y hy => hx y (by simp [hy]))]
  · simp only [CV.ev, mI_sound hd hall hh hm hx]
  · rename_i n c
    split at hm
    · cases hm
      have := distinctA_find hd _ (hx _ (List.mem_singleton.2 rfl))
      simp only [CV.ev, assign, this]
    · split at hm
      · rename_i m
        split at hm
        · rename_i he; subst he
          exact CV.agree (assign_agree hall hh) _ (by simp only [CV.upto, decide_eq_true_eq]; omega)
        · cases hm
      · cases hm
  · split at hm
    · rename_i hv; simp only [CV.ev, sameV_eq hv]
    · cases hm
  · split at hm
    · rename_i hv
      rw [← samePl_eq hv.1]
      exact CV.agree (assign_agree hall hh) _ hv.2
    · cases hm
theorem mL_sound : ∀ (l m : List CV) (x : List As), mL n0 l m = some x → (∀ y ∈ x, y ∈ A) → l.map (CV.ev (assign ρ A hs)) = m.map (CV.ev ρ)
  | [], [], _, _, _ => rfl
  | a :: l, b :: m, x, h, hx => by
    simp only [mL] at h
    obtain ⟨u, v, h1, h2, rfl⟩ := app2_some h
    simp only [List.map_cons, mCV_sound hd hall hh h1 (fun y hy => hx y (List.mem_append_left _ hy)), mL_sound l m v h2 (fun y hy => hx y (List.mem_append_right _ hy))]
  | [], _ :: _, _, h, _ => by simp [mL] at h
  | _ :: _, [], _, h, _ => by simp [mL] at h
theorem mSVs_sound : ∀ (l m : List SV) (x : List As), mSVs n0 l m = some x → (∀ y ∈ x, y ∈ A) → l.map (SV.ev (assign ρ A hs)) = m.map (SV.ev ρ)
  | [], [], _, _, _ => rfl
  | .one a :: l, .one b :: m, x, h, hx => by
    simp only [mSVs] at h
    obtain ⟨u, v, h1, h2, rfl⟩ := app2_some h
    simp only [List.map_cons, SV.ev, mCV_sound hd hall hh h1 (fun y hy => hx y (List.mem_append_left _ hy)), mSVs_sound l m v h2 (fun y hy => hx y (List.mem_append_right _ hy))]
  | .agg a :: l, .agg b :: m, x, h, hx => by
    simp only [mSVs] at h
    obtain ⟨u, v, h1, h2, rfl⟩ := app2_some h
    simp only [List.map_cons, SV.ev, mL_sound hd hall hh _ _ _ h1 (fun y hy => hx y (List.mem_append_left _ hy)), mSVs_sound l m v h2 (fun y hy => hx y (List.mem_append_right _ hy))]
  | [], _ :: _, _, h, _ => by simp [mSVs] at h
  | .one _ :: _, [], _, h, _ => by simp [mSVs] at h
  | .agg _ :: _, [], _, h, _ => by simp [mSVs] at h
  | .one _ :: _, .agg _ :: _, _, h, _ => by simp [mSVs] at h
  | .agg _ :: _, .one _ :: _, _, h, _ => by simp [mSVs] at h
theorem mTV_sound {t c : TV} {x : List As} (hm : mTV n0 t c = some x) (hx : ∀ y ∈ x, y ∈ A) : t.ev (assign ρ A hs) = c.ev ρ := by
  unfold mTV at hm
  split at hm
  · exact mCV_sound hd hall hh hm hx
  · simp only [TV.ev, SV.ev, mL_sound hd hall hh _ _ _ hm hx]
  · simp only [TV.ev, mSVs_sound hd hall hh _ _ _ hm hx]
  · cases hm
theorem mTmps_sound : ∀ (l m : List (Option TV)) (x : List As), mTmps n0 l m = some x → (∀ y ∈ x, y ∈ A) → l.length = m.length ∧ ∀ (t : Nat) v, l[t]? = some (some v) → ∃ u, m[t]? = some (some u) ∧ v.ev (assign ρ A hs) = u.ev ρ
  | [], [], _, _, _ => ⟨rfl, fun t v h => by simp at h⟩
  | none :: l, b :: m, x, h, hx => by
    simp only [mTmps] at h
    obtain ⟨h1, h2⟩ := mTmps_sound l m x h hx
    refine ⟨by simp [h1], fun t v hv => ?_⟩
    cases t with
    | zero => simp at hv
    | succ t => simpa using h2 t v (by simpa using hv)
  | some c :: l, some b :: m, x, h, hx => by
    simp only [mTmps] at h
    obtain ⟨u, v, h1, h2, rfl⟩ := app2_some h
    obtain ⟨e1, e2⟩ := mTmps_sound l m v h2 (fun y hy => hx y (List.mem_append_right _ hy))
    refine ⟨by simp [e1], fun t v hv => ?_⟩
    cases t with
    | zero =>
      simp only [List.getElem?_cons_zero, Option.some.injEq] at hv
      subst hv
      exact ⟨b, rfl, mTV_sound hd hall hh h1 (fun y hy => hx y (List.mem_append_left _ hy))⟩
    | succ t => simpa using e2 t v (by simpa using hv)
  | some _ :: _, none :: _, _, h, _ => by simp [mTmps] at h
  | [], _ :: _, _, h, _ => by simp [mTmps] at h
  | none :: _, [], _, h, _ => by simp [mTmps] at h
  | some _ :: _, [], _, h, _ => by simp [mTmps] at h

include hdh
/-- What a template's piece is of. -/
theorem mRes_sound {t : Res} {r : Option Res} {x : List As} {g : List (Nat × Option Nat)} (hm : mRes n0 t r = some (x, g)) (hx : ∀ y ∈ x, y ∈ A) (hg : ∀ y ∈ g, y ∈ hs) :
    (∃ s, r = some s ∧ t.hl (assign ρ A hs) = s.hl ρ ∧ (t.own = true → s.own = true) ∧ (s.pos ρ → t.pos (assign ρ A hs))) ∨ (t.hl (assign ρ A hs) = Hl.none ∧ t.pos (assign ρ A hs)) := by
  unfold mRes at hm
  split at hm
  · right; exact ⟨rfl, trivial⟩
  · rename_i a l T a' l' T'
    split at hm
    · rename_i hT; subst hT
      left
      split at hm
      · simp only [Option.map_eq_some_iff, Prod.mk.injEq] at hm
        obtain ⟨B, hB, rfl, rfl⟩ := hm
        have e1 : (assign ρ A hs).i a = ρ.i a' := by
          have := distinctA_find hd _ (hx _ (List.mem_cons_self ..))
          simp only [assign, this, CV.ev, valI, iev_var]
        refine ⟨_, rfl, ?_, fun _ => rfl, ?_⟩
        · simp only [Res.hl, e1, mL_sound hd hall hh _ _ _ hB (fun y hy => hx y (List.mem_cons_of_mem _ hy))]
        · simp only [Res.pos, e1]; exact id
      · split at hm
        · rename_i hlt he; subst he
          simp only [Option.map_eq_some_iff, Prod.mk.injEq] at hm
          obtain ⟨B, hB, rfl, rfl⟩ := hm
          have e1 : (assign ρ A hs).i a = ρ.i a := (assign_agree hall hh).i a (by omega)
          refine ⟨_, rfl, ?_, fun _ => rfl, ?_⟩
          · simp only [Res.hl, e1, mL_sound hd hall hh _ _ _ hB hx]
          · simp only [Res.pos, e1]; exact id
        · cases hm
    · cases hm
  · rename_i k _ _ _ k' _ _ _
    split at hm
    · cases hm
      have := distinctH_find hdh _ (hg _ (List.mem_singleton.2 rfl))
      left
      exact ⟨_, rfl, by simp only [Res.hl, assign, this], fun _ => rfl, fun _ => trivial⟩
    · split at hm
      · rename_i hlt he; subst he
        left
        exact ⟨_, rfl, by simp only [Res.hl]; exact (assign_agree hall hh).h k (by omega), fun _ => rfl, fun _ => trivial⟩
      · cases hm
  · rename_i k _ _ _
    split at hm
    · cases hm
      have := distinctH_find hdh _ (hg _ (List.mem_singleton.2 rfl))
      right; exact ⟨by simp only [Res.hl, assign, this], trivial⟩
    · cases hm
  · rename_i k _ _ _
    split at hm
    · cases hm
      have := distinctH_find hdh _ (hg _ (List.mem_singleton.2 rfl))
      right; exact ⟨by simp only [Res.hl, assign, this], trivial⟩
    · cases hm
  · rename_i k _ _ k' _ _
    split at hm
    · rename_i hc
      obtain ⟨hlt, rfl⟩ := hc
      cases hm
      left
      exact ⟨_, rfl, by simp only [Res.hl]; exact (assign_agree hall hh).h k hlt, fun h => h, fun _ => trivial⟩
    · cases hm
  · cases hm
theorem mMem_sound : ∀ (l m : Mem) (x : List As) (g : List (Nat × Option Nat)), mMem n0 l m = some (x, g) → (∀ y ∈ x, y ∈ A) → (∀ y ∈ g, y ∈ hs) → ∀ (p : Nat) t, l[p]? = some t →
    (∃ s, m[p]? = some s ∧ t.hl (assign ρ A hs) = s.hl ρ ∧ (t.own = true → s.own = true) ∧ (s.pos ρ → t.pos (assign ρ A hs))) ∨ (t.hl (assign ρ A hs) = Hl.none ∧ t.pos (assign ρ A hs))
  | [], _, _, _, _, _, _, p, t, h => by simp at h
  | r :: l, m, x, g, h, hx, hg, p, t, hp => by
    simp only [mMem] at h
    split at h
    · rename_i a1 h1 b1 g1 e1 e2
      cases h
      cases p with
      | zero =>
        simp only [List.getElem?_cons_zero, Option.some.injEq] at hp
        subst hp
        have := mRes_sound (ρ := ρ) hd hall hh hdh e1 (fun y hy => hx y (List.mem_append_left _ hy)) (fun y hy => hg y (List.mem_append_left _ hy))
        rwa [List.head?_eq_getElem?] at this
      | succ p =>
        have := mMem_sound l m.tail _ _ e2 (fun y hy => hx y (List.mem_append_right _ hy)) (fun y hy => hg y (List.mem_append_right _ hy)) p t (by simpa using hp)
        rwa [List.getElem?_tail] at this
    · cases h
end

/-- Pieces that are others' under new names. -/
theorem MRel.map (h : MRel S w0 ρ mem w) (hm : ∀ (p : Nat) t, mem'[p]? = some t → (∃ s, mem[p]? = some s ∧ t.hl ρ' = s.hl ρ ∧ (t.own = true → s.own = true) ∧ (s.pos ρ → t.pos ρ')) ∨ (t.hl ρ' = Hl.none ∧ t.pos ρ')) : MRel S w0 ρ' mem' w := by
  refine ⟨h.keep, fun r hr => ?_, fun r hr ho b hb => ?_, fun p q r s hpq hp hq ho => ?_, fun r hr => ?_⟩
  · obtain ⟨p, hp⟩ := List.getElem?_of_mem hr
    rcases hm p r hp with ⟨s, hs, e, _⟩ | ⟨e, _⟩
    · rw [e]; exact h.sub s (List.mem_of_getElem? hs)
    · rw [e]; intro b o hb; cases hb
  · obtain ⟨p, hp⟩ := List.getElem?_of_mem hr
    rcases hm p r hp with ⟨s, hs, e, h1, _⟩ | ⟨e, _⟩
    · rw [e] at hb; exact h.own s (List.mem_of_getElem? hs) (h1 ho) b hb
    · rw [e] at hb; cases hb
  · rcases hm p r hp with ⟨s', hs, e, h1, _⟩ | ⟨e, _⟩
    · rcases hm q s hq with ⟨t', ht, f, _, _⟩ | ⟨f, _⟩
      · rw [e, f]; exact h.dis p q s' t' hpq hs ht (h1 ho)
      · rw [f]; rintro b ⟨_, y⟩; cases y
    · rw [e]; rintro b ⟨y, _⟩; cases y
  · obtain ⟨p, hp⟩ := List.getElem?_of_mem hr
    rcases hm p r hp with ⟨s, hs, _, _, h1⟩ | ⟨_, e⟩
    · exact h1 (h.pos s (List.mem_of_getElem? hs))
    · exact e

theorem mSt0_sound {h s : St} (hm : mSt0 n0 h s = some (A, hs)) (hA : Rel S w0 ρ s a w) : Rel S w0 (assign ρ A hs) h a w ∧ Agree n0 ρ (assign ρ A hs) ∧ n0 ≤ h.nv := by
  unfold mSt0 at hm
  split at hm
  · rename_i a1 b1 g1 e1 e2
    split at hm
    · rename_i hc
      obtain ⟨rfl, rfl⟩ : a1 ++ b1 = A ∧ g1 = hs := by simpa using hm
      simp only [Bool.and_eq_true, decide_eq_true_eq] at hc
      obtain ⟨⟨⟨⟨⟨hd, hdh⟩, hall⟩, hh⟩, hp⟩, hnv⟩ := hc
      have hg : Agree n0 ρ (assign ρ (a1 ++ b1) g1) := assign_agree hall hh
      obtain ⟨t1, t2⟩ := mTmps_sound (ρ := ρ) hd hall hh _ _ _ e1 (fun y hy => List.mem_append_left _ hy)
      have m1 := mMem_sound (ρ := ρ) hd hall hh hdh _ _ _ _ e2 (fun y hy => List.mem_append_right _ hy) (fun y hy => hy)
      refine ⟨⟨hA.toMRel.map m1, by rw [t1]; exact hA.size, hA.defers, fun t v hv => ?_, fun e he => ?_⟩, hg, hnv⟩
      · obtain ⟨u, hu, ev⟩ := t2 t v hv
        rw [ev]; exact hA.tmp t u hu
      · rw [List.all_eq_true] at hp
        have := hp e he
        simp only [Bool.and_eq_true] at this
        rw [bev_agree hg this.1]
        exact hA.path e (by simpa using this.2)
    · cases hm
  · cases hm
theorem MRel.of_map (h : MRel S w0 ρ mem w) {mem' : Mem} (σ : Nat → Nat) (hi : ∀ i j, σ i = σ j → i = j) (hs : ∀ (i : Nat) r, mem'[i]? = some r → mem[σ i]? = some r ∨ r = .dead) : MRel S w0 ρ mem' w := by
  have dead : ∀ (r : Res), r = .dead → (r.hl ρ).sub w ∧ (∀ b, ¬ (r.hl ρ).mem b) ∧ r.pos ρ := fun r e => by
    subst e
    exact ⟨fun b o hb => (by cases hb), fun b hb => (by cases hb), trivial⟩
  refine ⟨h.keep, fun r hr => ?_, fun r hr ho b hb => ?_, fun p q r s hpq hp hq ho => ?_, fun r hr => ?_⟩
  · obtain ⟨i, hi'⟩ := List.getElem?_of_mem hr
    rcases hs i r hi' with e | e
    · exact h.sub r (List.mem_of_getElem? e)
    · exact (dead r e).1
  · obtain ⟨i, hi'⟩ := List.getElem?_of_mem hr
    rcases hs i r hi' with e | e
    · exact h.own r (List.mem_of_getElem? e) ho b hb
    · exact absurd hb ((dead r e).2.1 b)
  · rcases hs p r hp with e | e
    · rcases hs q s hq with e' | e'
      · exact h.dis _ _ r s (fun he => hpq (hi p q he)) e e' ho
      · exact fun b ⟨_, y⟩ => (dead s e').2.1 b y
    · exact fun b ⟨x, _⟩ => (dead r e).2.1 b x
  · obtain ⟨i, hi'⟩ := List.getElem?_of_mem hr
    rcases hs i r hi' with e | e
    · exact h.pos r (List.mem_of_getElem? e)
    · exact (dead r e).2.2
theorem MRel.pad (h : MRel S w0 ρ mem w) (n : Nat) : MRel S w0 ρ (padM mem n) w := by
  refine h.of_map id (fun _ _ e => e) fun i r hr => ?_
  unfold padM at hr
  rcases Nat.lt_or_ge i mem.length with hl | hl
  · rw [List.getElem?_append_left hl] at hr; exact Or.inl hr
  · rw [List.getElem?_append_right hl] at hr
    exact Or.inr (List.eq_of_mem_replicate (List.mem_of_getElem? hr))
theorem MRel.swap (h : MRel S w0 ρ mem w) (p q : Nat) : MRel S w0 ρ (swapM mem p q) w := by
  unfold swapM
  split
  · rename_i a b hp hq
    have lp := (List.getElem?_eq_some_iff.1 hp).1
    have lq := (List.getElem?_eq_some_iff.1 hq).1
    refine h.of_map (fun i => if i = p then q else if i = q then p else i) (fun i j e => ?_) fun i r hr => Or.inl ?_
    · have e : (if i = p then q else if i = q then p else i) = (if j = p then q else if j = q then p else j) := e
      split at e <;> split at e <;> (try split at e) <;> (try split at e) <;> omega
    · show mem[if i = p then q else if i = q then p else i]? = _
      by_cases h1 : i = q
      · subst h1
        rw [List.getElem?_set_self (by simpa using lq)] at hr
        by_cases h2 : i = p
        · subst h2
          rw [if_pos rfl]
          rw [hq] at hp ⊢
          rw [← hr]; exact hp
        · rw [if_neg h2, if_pos rfl, hp]; exact hr
      · rw [List.getElem?_set_ne (fun e => h1 e.symm)] at hr
        by_cases h2 : i = p
        · subst h2
          rw [List.getElem?_set_self lp] at hr
          rw [if_pos rfl, hq]; exact hr
        · rw [List.getElem?_set_ne (fun e => h2 e.symm)] at hr
          rw [if_neg h2, if_neg h1]; exact hr
  · exact h
theorem MRel.fix : ∀ (l : Mem) (p : Nat) {m : Mem}, MRel S w0 ρ m w → MRel S w0 ρ (fixM n0 A l p m) w
  | [], _, _, h => h
  | r :: l, p, m, h => by
    unfold fixM
    split
    · exact h
    · rename_i heq
      cases heq
      refine MRel.fix _ _ ?_
      split
      · split
        · split
          · split
            · exact h.swap _ _
            · exact h
          · exact h
        · exact h
      · exact h
    · rename_i heq
      cases heq
      exact MRel.fix _ _ h
theorem mSt_sound {h s : St} (hm : mSt n0 h s = some (A, hs)) (hA : Rel S w0 ρ s a w) : Rel S w0 (assign ρ A hs) h a w ∧ Agree n0 ρ (assign ρ A hs) ∧ n0 ≤ h.nv := by
  unfold mSt at hm
  split at hm
  · rename_i A0 h0
    split at hm
    · rename_i r hr
      cases hm
      exact mSt0_sound hr ⟨(hA.toMRel.pad _).fix _ _, hA.size, hA.defers, hA.tmp, hA.path⟩
    · exact mSt0_sound hm hA
  · cases hm
end
end Go.Sx

namespace Go.Sx
open Go

section
variable {P : Program} {C : Ctx} {S : Nat → Prop} {w0 : World} {ρ ρ' : Env} {st : St} {mem mem' : Mem} {a : Act} {w w' : World}

def ExOK (P : Program) (C : Ctx) (ex : Ex) : Prop := ∀ d path c st k nd ms S w0 ρ a w (Q : Exit → Act → World → Prop), ex d path c st k = some nd → Rel S w0 ρ st a w → nd.holds C ms ρ →
  (∀ t, KOK S w0 C d ms st.nv ρ (k t) (Q (exitOf t))) → c.wp P Q a w

theorem inlineK_sound {ex : Ex} (hex : ExOK P C ex) {d : Nat} {ms : Nat → Nat} {f : FuncId} {args : List TV} {k : TV → St → Option Nd} {nd : Nd} (h : inlineK P ex d f args st k = some nd) (hm : MRel S w0 ρ st.mem w) (hp : Path ρ st.path) (hn : nd.holds C ms ρ)
    {R : Value → World → Prop} (hk : ∀ ms' r st' nd' ρ' w', (∀ i, i < d → ms' i = ms i) → k r st' = some nd' → Agree st.nv ρ ρ' → MRel S w0 ρ' st'.mem w' → Path ρ' st'.path → nd'.holds C ms' ρ' → R (r.ev ρ') w') :
    Calls P f (args.map (TV.ev ρ)).toArray w fun e w' => ∃ v, e = .returned v ∧ R v w' := by
  unfold inlineK at h
  split at h
  · rename_i fn hf
    split at h
    · rename_i c hb
      refine calls_of_wp hf hb ?_
      have hrel : Rel S w0 ρ ⟨args.map some ++ List.replicate (fn.ntmps - args.length) none, st.mem, st.nv, st.path⟩ { tmps := (args.map (TV.ev ρ)).toArray ++ Array.replicate (fn.ntmps - (args.map (TV.ev ρ)).toArray.size) undef, defers := [] } w := by
        refine ⟨hm, by simp, rfl, ?_, hp⟩
        intro t v hs
        have hs' : (args.map some ++ List.replicate (fn.ntmps - args.length) none)[t]? = some (some v) := hs
        rw [List.getElem?_append] at hs'
        split at hs'
        · rename_i hlt
          rw [List.getElem?_map, Option.map_eq_some_iff] at hs'
          obtain ⟨u, hu1, hu2⟩ := hs'
          cases hu2
          have hlt' : t < args.length := by simpa using hlt
          rw [Array.getElem?_append, if_pos (by simpa using hlt')]
          simp [hu1]
        · rw [List.getElem?_replicate] at hs'
          split at hs' <;> cases hs'
      refine hex _ _ _ _ _ _ ms _ _ _ _ _ _ h hrel hn fun t => ?_
      intro ms' st' nd' ρ' a' w' hms hk' hg hA hn'
      have key : ∀ (t : Tag), (match resultsE P st' fn.results.toList with
          | some (n, vs) => needK st' n fun s => k (outOf vs) s
          | none => none) = some nd' → a'.defers = [] ∧ ∃ v, (results fn a'.tmps).run P w' = .ok v w' ∧ ∃ v', Ending.returned v = .returned v' ∧ R v' w' := by
        intro t hk'
        split at hk'
        · rename_i n vs hv
          obtain ⟨hb, st'', nd'', hk2, he, hA2, hn2⟩ := needK_sound hk' hA hn'
          refine ⟨hA.defers, _, results_sound hA hv hb, _, rfl, ?_⟩
          exact hk ms' _ st'' nd'' ρ' w' hms hk2 hg hA2.toMRel hA2.path hn2
        · cases hk'
      cases t with
      | norm => exact key .norm hk'
      | ret => exact key .ret hk'
      | exit i => cases hk'
    · cases h
  · cases h

theorem MRel.mrg (h : MRel S w0 ρ mem w) {p q : Nat} {r1 r2 r' : Res} (hp : mem[p]? = some r1) (hq : mem[q]? = some r2) (hpq : q ≠ p) (o1 : r1.own = true) (o2 : r2.own = true) (hag : ∀ s ∈ mem, s.same ρ ρ')
    (hnew : r'.hl ρ' = (r1.hl ρ).un (r2.hl ρ)) (hpos : r'.pos ρ') : MRel S w0 ρ' ((mem.set p r').set q .dead) w := by
  have hlp : p < mem.length := (List.getElem?_eq_some_iff.1 hp).1
  have hlq : q < mem.length := (List.getElem?_eq_some_iff.1 hq).1
  have gp : ((mem.set p r').set q Res.dead)[p]? = some r' := by
    rw [List.getElem?_set_ne hpq, List.getElem?_set_self hlp]
  have gq : ((mem.set p r').set q Res.dead)[q]? = some .dead := List.getElem?_set_self (by simpa using hlq)
  refine h.upd (fun b => (r1.hl ρ).mem b ∨ (r2.hl ρ).mem b) (fun j => j = p ∨ j = q) ?_ rfl rfl rfl (Nat.le_refl _) (fun b _ _ => rfl) ?_ ?_ ?_
  · rintro b (hb | hb)
    · exact ⟨r1, List.mem_of_getElem? hp, o1, hb⟩
    · exact ⟨r2, List.mem_of_getElem? hq, o2, hb⟩
  · intro j s hj hn
    have h1 : j ≠ p := fun e => hn (Or.inl e)
    have h2 : j ≠ q := fun e => hn (Or.inr e)
    rw [List.getElem?_set_ne h2.symm, List.getElem?_set_ne h1.symm] at hj
    refine ⟨hj, hag s (List.mem_of_getElem? hj), fun b hb hu => ?_⟩
    rcases hu with hu | hu
    · exact h.dis p j r1 s h1.symm hp hj o1 b ⟨hu, hb⟩
    · exact h.dis q j r2 s h2.symm hq hj o2 b ⟨hu, hb⟩
  · intro j s hj hn
    rcases hn with rfl | rfl
    · rw [gp] at hj
      cases hj
      refine ⟨⟨?_, hpos⟩, fun b hb => ?_⟩
      · rw [hnew]; exact Hl.un_sub (h.sub _ (List.mem_of_getElem? hp)) (h.sub _ (List.mem_of_getElem? hq))
      · rw [hnew] at hb
        exact Or.inl (Hl.un_mem.1 hb)
    · rw [gq] at hj
      cases hj
      exact ⟨⟨fun b o hb => (by cases hb), trivial⟩, fun b hb => (by cases hb)⟩
  · intro j j' s s' hne h1 h2 hj hj' ho
    rcases h1 with rfl | rfl
    · rcases h2 with rfl | rfl
      · exact absurd rfl hne
      · rw [gq] at hj'; cases hj'
        exact fun b ⟨_, y⟩ => by cases y
    · rw [gq] at hj; cases hj
      exact fun b ⟨x, _⟩ => by cases x
theorem mrgQ_sound {mem : Mem} {p : Nat} : ∀ {l : List CV} {y : E} {q : Nat} {r : Res}, mrgQ mem p l = some (y, q, r) → mem[q]? = some r ∧ r.own = true ∧ q ≠ p
  | c :: l, y, q, r, h => by
    unfold mrgQ at h
    split at h
    · rename_i y' q' r' hb
      split at h
      · rename_i hc
        cases h
        cases hr : rootCV c with
        | none => rw [hr] at hb; cases hb
        | some z =>
          rw [hr] at hb
          simp only [Option.bind_some, Option.map_eq_some_iff] at hb
          obtain ⟨a, ha, e⟩ := hb
          cases e
          exact ⟨posOf_sound ha, hc.1, hc.2⟩
      · exact mrgQ_sound h
    · exact mrgQ_sound h
theorem mrgOf_sound {o : Oper} {s : St} {x : X} (h : mrgOf P st o = some (s, x)) (hA : Rel S w0 ρ st a w) : ∃ ρ', Agree st.nv ρ ρ' ∧ x.n = st.nv ∧ x.rel C ρ ρ' ∧ st.nv ≤ s.nv ∧ Rel S w0 ρ' s a w := by
  unfold mrgOf at h
  split at h
  · split at h
    · rename_i p k vers tags links hp
      split at h
      · rename_i y q r hq
        split at h
        · rename_i hu
          cases h
          have hp := posOf_sound hp
          obtain ⟨h1, h2, h3⟩ := mrgQ_sound hq
          have hg : Agree st.nv ρ (ρ.setH st.nv (((Res.hp k vers tags links).hl ρ).un (r.hl ρ))) := agree_setH _ _ _ (Nat.le_refl _)
          refine ⟨_, hg, rfl, ⟨setH_h _ _ _, hA.dis p q _ _ h3.symm hp h1 rfl⟩, by show st.nv ≤ st.nv + 1; omega, Rel.tmps_agree hg hu hA ?_ _⟩
          exact hA.toMRel.mrg hp h1 h3 rfl h2 (Mem.agree hg (St.upto_mem hu)) (setH_h _ _ _) trivial
        · cases h
      · cases h
    · cases h
  · cases h
theorem mrgK_sound {o : Oper} {ms : Nat → Nat} {k : St → Option Nd} : ∀ (n : Nat) {st : St} {ρ : Env} {nd : Nd}, mrgK P o k n st = some nd → Rel S w0 ρ st a w → nd.holds C ms ρ → ∃ ρ' s nd', Agree st.nv ρ ρ' ∧ st.nv ≤ s.nv ∧ k s = some nd' ∧ Rel S w0 ρ' s a w ∧ nd'.holds C ms ρ'
  | 0, st, ρ, nd, h, hA, hn => ⟨ρ, st, nd, Agree.refl _ _, Nat.le_refl _, h, hA, hn⟩
  | n + 1, st, ρ, nd, h, hA, hn => by
    unfold mrgK at h
    split at h
    · rename_i s x hm
      simp only [Option.map_eq_some_iff] at h
      obtain ⟨nd1, h1, rfl⟩ := h
      obtain ⟨ρ1, g1, e1, r1, l1, A1⟩ := mrgOf_sound (C := C) hm hA
      have hn1 : nd1.holds C ms ρ1 := hn ρ1 (by rw [e1]; exact g1) r1
      obtain ⟨ρ2, s2, nd2, g2, l2, h2, A2, hn2⟩ := mrgK_sound n h1 A1 hn1
      exact ⟨ρ2, s2, nd2, g1.trans (g2.mono l1), Nat.le_trans l1 l2, h2, A2, hn2⟩
    · exact ⟨ρ, st, nd, Agree.refl _ _, Nat.le_refl _, h, hA, hn⟩

theorem stepK_sound {ex : Ex} (hΓ : ∀ s ∈ C.Γ, s.OK P) (hex : ExOK P C ex) {d : Nat} {ms : Nat → Nat} {o : Oper} {k : St → Option Nd} {nd : Nd} (h : stepK P C.Γ ex d o st k = some nd) (hA : Rel S w0 ρ st a w) (hn : nd.holds C ms ρ)
    {K : Act → World → Prop} {Q : Exit → Act → World → Prop} (hk : KOK S w0 C d ms st.nv ρ k K) : o.wp P a w K Q := by
  unfold stepK at h
  split at h
  · rename_i n v hq
    obtain ⟨hb, st', nd', hk', he, hA', hn'⟩ := needK_sound h hA hn
    refine wp_value (quiet_sound hA hq hb) (hk ms _ nd' ρ _ w (fun _ _ => rfl) hk' (Agree.refl _ _) ?_ hn')
    exact Rel.put hA' _ _ _ (fun y hy => by cases hy; rfl)
  · obtain ⟨ρ1, s1, nd1, g1, l1, h1, hA1, hn1⟩ := mrgK_sound 4 h hA hn
    replace hk := hk.of_agree (fun _ _ => rfl) g1 l1
    clear h hn hA
    rename_i hqq
    clear hqq
    revert h1
    generalize s1 = st1 at *
    intro h
    have hA := hA1
    have hn := hn1
    split at h
    · rename_i R hR
      split at h
      · rename_i hnv
        simp only [Option.map_eq_some_iff] at h
        obtain ⟨nd', hk', rfl⟩ := h
        rw [ndAnd_holds] at hn
        refine extE_sound (Q := Q) hΓ hA hR hn.1 (fun ρ' x w' hg hx hA' => ?_)
        refine hk ms _ nd' ρ' _ w' (fun _ _ => rfl) hk' hg hA' ?_
        have hn2 := hn.2
        cases hRx : R.x with
        | none => rw [hRx] at hn2 hx; subst hx; exact hn2
        | some y =>
          rw [hRx] at hn2 hx
          exact hn2 ρ' (by rw [hx.2]; exact hg) hx.1
      · cases h
    · split at h
      · rename_i c args ats hop
        split at h
        · rename_i f vs hc hx
          split at h
          · rename_i hcond
            simp only [Bool.and_eq_true] at hcond
            refine wp_call hop (calleeOf_sound hA hc) hcond.1 (opnds_sound hA _ _ hx) ?_
            refine inlineK_sound hex h hA.toMRel hA.path hn fun ms' r st' nd' ρ' w' hms hk' hg hm hp hn' => ?_
            split at hk'
            · rename_i hnv
              refine hk ms' _ nd' ρ' _ w' hms hk' hg ?_ hn'
              have hAg := hA.agree hg hcond.2
              exact Rel.put (st := { st' with tmps := st1.tmps }) ⟨hm, hAg.size, hAg.defers, hAg.tmp, hp⟩ _ _ _ (fun y hy => by cases hy; rfl)
            · cases hk'
          · cases h
        · cases h
      · cases h; exact absurd hn (by simp [Nd.holds, bev_ff])
      · cases h; exact absurd hn (by simp [Nd.holds, bev_ff])
      · cases h

theorem execOps_sound {ex : Ex} (hΓ : ∀ s ∈ C.Γ, s.OK P) (hex : ExOK P C ex) {d : Nat} {ops : List Oper} {Q : Exit → Act → World → Prop} : ∀ (l : List Oper) (st : St) (k : St → Option Nd) (nd : Nd) (ms : Nat → Nat) (ρ : Env) (a : Act) (w : World),
    execOps P C.Γ ex d ops l st k = some nd → Rel S w0 ρ st a w → nd.holds C ms ρ → KOK S w0 C d ms st.nv ρ k (Q .normal) → wpList P ops.toArray Q l a w
  | [], st, k, nd, ms, ρ, a, w, h, hA, hn, hk => hk ms st nd ρ a w (fun _ _ => rfl) h (Agree.refl _ _) hA hn
  | o :: l, st, k, nd, ms, ρ, a, w, h, hA, hn, hk => by
    have ih := fun st k nd ms ρ a w => execOps_sound (d := d) (ops := ops) (Q := Q) hΓ hex l st k nd ms ρ a w
    -- a step, and what follows
    have one : ∀ (st1 : St) (nd1 : Nd), st1.nv = st.nv → (stepK P C.Γ ex d o st1 fun s => if st.nv ≤ s.nv then execOps P C.Γ ex d ops l s k else none) = some nd1 → Rel S w0 ρ st1 a w → nd1.holds C ms ρ →
        ∀ K : Act → World → Prop, (∀ a w, wpList P ops.toArray Q l a w → K a w) → o.wp P a w K Q := by
      intro st1 nd1 hnv h1 hA1 hn1 K hK
      refine stepK_sound hΓ hex h1 hA1 hn1 fun ms' st' nd' ρ' a' w' hms hk' hg hA' hn' => hK _ _ ?_
      simp only at hk'
      split at hk'
      · rename_i hle
        refine ih st' k nd' ms' ρ' a' w' hk' hA' hn' ?_
        rw [hnv] at hg
        exact hk.of_agree hms hg hle
      · cases hk'
    have skip : ∀ (st1 : St) (nd1 : Nd), st1.nv = st.nv → execOps P C.Γ ex d ops l (st1.put o.dst (some skipTV)) k = some nd1 → Rel S w0 ρ st1 a w → nd1.holds C ms ρ →
        wpList P ops.toArray Q l (a.put o.dst undef) w := by
      intro st1 nd1 hnv h1 hA1 hn1
      refine ih _ k nd1 ms ρ _ w h1 (Rel.put hA1 _ _ _ (fun y hy => by cases hy; rfl)) hn1 ?_
      exact hk.of_agree (fun _ _ => rfl) (Agree.refl _ _) (by rw [St.put_nv, hnv]; exact Nat.le_refl _)
    refine wpList_step fun K hK => ?_
    unfold execOps at h
    split at h
    · cases h
    · rename_i hg
      rw [guard_sound hA hg]; simp only [wantB, if_true]
      exact one st nd rfl h hA hn K hK
    · rename_i e want hg
      have hw : Region.wanted o (yielded ops.toArray a.tmps) = (bev ρ e == want) := guard_sound hA hg
      split at h
      · rename_i b hkn
        have hbe : (bev ρ e == want) = (b == want) := by rw [known_sound hA.path hkn]
        rw [hw, hbe]
        split at h
        · rename_i hbw
          rw [if_pos (by simpa using hbw)]
          exact one st nd rfl h hA hn K hK
        · rename_i hbw
          rw [if_neg (by simpa using hbw)]
          exact hK _ _ (skip st nd rfl h hA hn)
      · simp only at h
        split at h
        · rename_i x y h1 h2
          cases h
          rw [ndAnd_holds, ndImp_holds, ndImp_holds] at hn
          have hy : bev ρ (if want then e else mkNot e) = (bev ρ e == want) := by
            cases want
            · simp [bev_mkNot]
            · simp
          rw [hw]
          cases hb : (bev ρ e == want) with
          | true =>
            rw [if_pos rfl]
            rw [hb] at hy
            exact one { st with path := (if want then e else mkNot e) :: st.path } x rfl h1 (hA.path_cons hy) (hn.1 hy) K hK
          | false =>
            rw [if_neg (by simp)]
            rw [hb] at hy
            have hy' : bev ρ (mkNot (if want then e else mkNot e)) = true := by rw [bev_mkNot, hy]; rfl
            exact hK _ _ (skip { st with path := mkNot (if want then e else mkNot e) :: st.path } y rfl h2 (hA.path_cons hy') (hn.2 hy'))
        · cases h
end
end Go.Sx

namespace Go.Sx
open Go

/-! ### Two pieces that stand the other way round -/
def swapAt {α : Type} : Nat → List α → List α
  | 0, a :: b :: l => b :: a :: l
  | i + 1, a :: l => a :: swapAt i l
  | _, l => l
def sw (i p : Nat) : Nat := if p = i then i + 1 else if p = i + 1 then i else p
theorem sw_inj {i p q : Nat} (h : p ≠ q) : sw i p ≠ sw i q := by unfold sw; split <;> split <;> (try split) <;> (try split) <;> omega
theorem swapAt_get {α : Type} : ∀ {l : List α} {i p : Nat}, i + 1 < l.length → (swapAt i l)[p]? = l[sw i p]?
  | a :: b :: l, 0, p, _ => by
    match p with
    | 0 => rfl
    | 1 => rfl
    | p + 2 => rfl
  | a :: l, i + 1, 0, h => rfl
  | a :: l, i + 1, p + 1, h => by
    show (swapAt i l)[p]? = _
    rw [swapAt_get (by simpa using h)]
    have : sw (i + 1) (p + 1) = sw i p + 1 := by unfold sw; split <;> split <;> (try split) <;> (try split) <;> omega
    rw [this, List.getElem?_cons_succ]
  | [], _, _, h => by simp at h
  | [_], 0, _, h => by simp at h
theorem swapAt_mem {α : Type} {l : List α} {i : Nat} (hi : i + 1 < l.length) {x : α} (h : x ∈ swapAt i l) : x ∈ l := by
  obtain ⟨p, hp⟩ := List.mem_iff_getElem?.1 h
  rw [swapAt_get hi] at hp
  exact List.mem_of_getElem? hp
theorem Rel.swap {S : Nat → Prop} {w0 : World} {ρ : Env} {st : St} {a : Act} {w : World} (h : Rel S w0 ρ st a w) {i : Nat} (hi : i + 1 < st.mem.length) : Rel S w0 ρ { st with mem := swapAt i st.mem } a w :=
  ⟨⟨h.keep, fun r hr => h.sub r (swapAt_mem hi hr), fun r hr => h.own r (swapAt_mem hi hr), fun p q r s hpq hp hq ho => by
    have hp : (swapAt i st.mem)[p]? = some r := hp
    have hq : (swapAt i st.mem)[q]? = some s := hq
    rw [swapAt_get hi] at hp hq
    exact h.dis _ _ r s (sw_inj hpq) hp hq ho, fun r hr => h.pos r (swapAt_mem hi hr)⟩, h.size, h.defers, h.tmp, h.path⟩
/-- Matched as it is, or with two pieces the other way round. -/
def mStX (n0 : Nat) (h s : St) : MA := match mSt n0 h s with
  | some r => some r
  | none => (List.range (s.mem.length - 1)).findSome? fun i => mSt n0 h { s with mem := swapAt i s.mem }
theorem mStX_sound {n0 : Nat} {S : Nat → Prop} {w0 : World} {ρ : Env} {h s : St} {a : Act} {w : World} {A : List As} {hs : List (Nat × Option Nat)} (hm : mStX n0 h s = some (A, hs)) (hA : Rel S w0 ρ s a w) : Rel S w0 (assign ρ A hs) h a w ∧ Agree n0 ρ (assign ρ A hs) ∧ n0 ≤ h.nv := by
  unfold mStX at hm
  split at hm
  · rename_i r hr
    cases hm
    exact mSt_sound hr hA
  · obtain ⟨i, hi, hm⟩ := List.exists_of_findSome?_eq_some hm
    exact mSt_sound hm (hA.swap (by have := List.mem_range.1 hi; omega))

/-- What is told of a loop: the number of its invariant; the slots that vary, with their new values; the pieces that vary; the number of variables at its head. -/
structure LoopI where
  j : Nat
  slots : List (Nat × TV)
  mem : List (Nat × Res)
  nv : Nat
/-- The slots that a piece of code writes. -/
def dsts : Code → List Nat
  | .region _ ops _ => ops.toList.filterMap (·.dst)
  | .seq a b => dsts a ++ dsts b
  | .cond _ a b => dsts a ++ dsts b
  | .block _ b => dsts b
  | .loop b => dsts b
  | .scope b => dsts b
  | _ => []
def LoopI.head (L : LoopI) (ds : List Nat) (st : St) : St where
  tmps := mapIx (fun i v => match L.slots.find? fun q => q.1 == i with
    | some q => some q.2
    | none => if ds.contains i then none else v) 0 st.tmps
  mem := (List.range (max st.mem.length (L.mem.foldl (fun m q => max m (q.1 + 1)) 0))).map fun p => match L.mem.find? fun q => q.1 == p with
    | some q => q.2
    | none => st.mem.getD p .dead
  nv := L.nv
  path := st.path.filter (E.upto st.nv)
abbrev Loops := List Nat → Option LoopI

def loopK (ex : St → Kont → Option Nd) : Nat → St → Kont → Option Nd
  | 0, _, _ => none
  | m + 1, st, k => ex st fun t s => match t with
    | .norm => if st.nv ≤ s.nv then loopK ex m s k else none
    | t => k t s

abbrev Dk := Ex → Nat → List Oper → St → (St → Option Nd) → Option Nd
/-- One piece of code; what stands within it is told by ex. -/
def exec1 (P : Program) (Γ : List Spec) (dk : Dk) (Λ : Loops) (lim : Nat) (ex : Ex) : Ex := fun d path c st k =>
    match c with
    | .skip => k .norm st
    | .label _ => k .norm st
    | .exit i => k (.exit i) st
    | .ret => k .ret st
    | .region _ ops draw => if draw then dk ex d ops.toList st (k .norm) else execOps P Γ ex d ops.toList ops.toList st (k .norm)
    | .seq x y => ex d (path ++ [0]) x st fun t s => match t with
      | .norm => if st.nv ≤ s.nv then ex d (path ++ [1]) y s k else none
      | t => k t s
    | .cond c x y => match opnd st c with
      | some (.sv (.one (.bool e))) => match known st.path e with
        | some true => ex d (path ++ [0]) x st k
        | some false => ex d (path ++ [1]) y st k
        | none => match ex d (path ++ [0]) x { st with path := e :: st.path } k, ex d (path ++ [1]) y { st with path := mkNot e :: st.path } k with
          | some a, some b => some (ndAnd (ndImp e a) (ndImp (mkNot e) b))
          | _, _ => none
      | _ => none
    | .block id b => ex d (path ++ [0]) b st fun t s => k (if t = .exit id then .norm else t) s
    | .loop b => match Λ path with
      | none => loopK (fun st k => ex d (path ++ [0]) b st k) lim st k
      | some L =>
        let hd := L.head (dsts b) st
        match mStX st.nv hd st, ex (d + 1) (path ++ [0]) b hd fun t s => match t with
            | .norm => (mStX st.nv hd s).map fun r => .back d L.j r.1 r.2
            | t => k t s with
        | some r, some nd => some (ndAnd (.inv L.j r.1 r.2) (.havoc d L.j st.nv nd))
        | _, _ => none
    | _ => none
/-- Code; behind a piece that Λ tells of (its path behind 99) all ways come together: what holds there is an invariant. -/
def exec (P : Program) (Γ : List Spec) (dk : Dk) (Λ : Loops) (lim : Nat) : Nat → Ex
  | 0 => fun _ _ _ _ _ => none
  | n + 1 => fun d path c st k =>
    let ex := exec P Γ dk Λ lim n
    match Λ (99 :: path) with
    | none => exec1 P Γ dk Λ lim ex d path c st k
    | some L =>
      let hd := L.head (dsts c) st
      match exec1 P Γ dk Λ lim ex d path c st fun t s => match t with
          | .norm => (mStX st.nv hd s).map fun r => .inv L.j r.1 r.2
          | t => k t s, k .norm hd with
      | some a, some b => some (ndAnd a (.havoc d L.j st.nv b))
      | _, _ => none
/-- A loop's path. -/
def lp (p : List Nat) : Bool := decide (p.length > 1) && !(p.head? == some 99)
/-- A cut's path. -/
def cutAt (p : List Nat) (q : List Nat) : Bool := eqN p (99 :: q)

/-- The blocks that a value may point to, as far as they are told by name. -/
def CV.bases : CV → List Nat
  | .hptr (.var a) _ => [a]
  | .sl (.var a) _ _ _ => [a]
  | .map (.var a) => [a]
  | .pti a _ _ _ _ => [a]
  | _ => []
def Res.bases : Res → List Nat
  | .blk _ l _ => l.flatMap CV.bases
  | _ => []
def TV.bases : TV → List Nat
  | .sv v => v.cells.flatMap CV.bases
  | .tup l => l.flatMap fun v => v.cells.flatMap CV.bases
/-- What is left at an end: without a function's own variables. -/
def pruneM (n0 : Nat) (r : TV) (mem : Mem) : Mem :=
  let used := r.bases ++ mem.flatMap Res.bases
  mapIx (fun i x => match x with
    | .blk a l T => if decide (n0 ≤ i) && !used.contains a then .dead else .blk a l T
    | x => x) 0 mem
theorem pruneM_get {n0 : Nat} {r : TV} {mem : Mem} (p : Nat) (x : Res) (h : (pruneM n0 r mem)[p]? = some x) : mem[p]? = some x ∨ x = .dead := by
  unfold pruneM at h
  simp only [mapIx_get0, Option.map_eq_some_iff] at h
  obtain ⟨y, hy, h⟩ := h
  split at h
  · split at h
    · exact Or.inr h.symm
    · subst h; exact Or.inl hy
  · subst h; exact Or.inl hy

def fnVC (P : Program) (Γ : List Spec) (dk : Dk) (Λ : Loops) (lim fuel : Nat) (f : FuncId) (args : List TV) (mem : Mem) (nv : Nat) (path : List E) : Option Nd :=
  inlineK P (exec P Γ dk Λ lim fuel) 0 f args ⟨[], mem, nv, path⟩ fun r s => some (.post (pruneM mem.length r s.mem) r)

def DkOK (P : Program) (C : Ctx) (dk : Dk) : Prop := ∀ ex, ExOK P C ex → ∀ d ops st k nd ms S w0 ρ a w id (Q : Exit → Act → World → Prop), dk ex d ops st k = some nd → Rel S w0 ρ st a w → nd.holds C ms ρ →
  KOK S w0 C d ms st.nv ρ k (Q .normal) → (Code.region id ops.toArray true).wp P Q a w

section
variable {P : Program} {C : Ctx} {S : Nat → Prop} {w0 : World} {ρ ρ' : Env} {st : St} {mem mem' : Mem} {a : Act} {w w' : World}

theorem loopK_sound {c : Code} {d : Nat} {ex : St → Kont → Option Nd} {k : Kont} {Q : Exit → Act → World → Prop}
    (hex : ∀ st k nd ms ρ a w (Q : Exit → Act → World → Prop), ex st k = some nd → Rel S w0 ρ st a w → nd.holds C ms ρ → (∀ t, KOK S w0 C d ms st.nv ρ (k t) (Q (exitOf t))) → c.wp P Q a w) :
    ∀ (m : Nat) (st : St) (nd : Nd) (ms : Nat → Nat) (ρ : Env) (a : Act) (w : World), loopK ex m st k = some nd → Rel S w0 ρ st a w → nd.holds C ms ρ → (∀ t, KOK S w0 C d ms st.nv ρ (k t) (Q (exitOf t))) → Code.rounds P c Q m a w
  | 0, st, nd, ms, ρ, a, w, h, _, _, _ => by cases h
  | m + 1, st, nd, ms, ρ, a, w, h, hA, hn, hk => by
    unfold loopK at h
    refine hex st _ nd ms ρ a w _ h hA hn fun t => ?_
    intro ms' st' nd' ρ' a' w' hms hk' hg hA' hn'
    cases t with
    | norm =>
      simp only at hk'
      split at hk'
      · rename_i hle
        exact loopK_sound hex m st' nd' ms' ρ' a' w' hk' hA' hn' fun t => (hk t).of_agree hms hg hle
      · cases hk'
    | ret => exact hk .ret ms' st' nd' ρ' a' w' hms hk' hg hA' hn'
    | exit i => exact hk (.exit i) ms' st' nd' ρ' a' w' hms hk' hg hA' hn'

theorem exec1_ok {dk : Dk} (hΓ : ∀ s ∈ C.Γ, s.OK P) (hdk : DkOK P C dk) (Λ : Loops) (lim : Nat) {ex : Ex} (ih : ExOK P C ex) : ExOK P C (exec1 P C.Γ dk Λ lim ex) := fun d path c st k nd ms S w0 ρ a w Q h hA hn hk => by
    unfold exec1 at h
    simp only at h
    have self : ∀ t, k t st = some nd → Q (exitOf t) a w := fun t h => hk t ms st nd ρ a w (fun _ _ => rfl) h (Agree.refl _ _) hA hn
    split at h
    · exact wp_skip (self .norm h)
    · exact wp_label (self .norm h)
    · exact wp_exit (self (.exit _) h)
    · exact wp_ret (self .ret h)
    · rename_i id ops draw
      split at h
      · rename_i hd
        subst hd
        have := hdk _ ih d ops.toList st (k .norm) nd ms S w0 ρ a w id Q h hA hn (hk .norm)
        simpa using this
      · rename_i hd
        have hd : draw = false := by simpa using hd
        subst hd
        have := execOps_sound (Q := Q) hΓ ih ops.toList st (k .norm) nd ms ρ a w h hA hn (hk .norm)
        exact wp_region_list (by simpa using this)
    · rename_i x y
      refine wp_seq (ih d _ x st _ nd ms S w0 ρ a w _ h hA hn fun t => ?_)
      intro ms' st' nd' ρ' a' w' hms hk' hg hA' hn'
      cases t with
      | norm =>
        simp only at hk'
        split at hk'
        · rename_i hle
          exact ih d _ y st' k nd' ms' S w0 ρ' a' w' Q hk' hA' hn' fun t => (hk t).of_agree hms hg hle
        · cases hk'
      | ret => exact hk .ret ms' st' nd' ρ' a' w' hms hk' hg hA' hn'
      | exit i => exact hk (.exit i) ms' st' nd' ρ' a' w' hms hk' hg hA' hn'
    · rename_i c x y
      split at h
      · rename_i e hc
        have hce := opnd_sound hA hc
        simp only [TV.ev, SV.ev, CV.ev] at hce
        split at h
        · rename_i hkn
          exact wp_cond_true (by rw [hce, known_sound hA.path hkn]) (ih d _ x st k nd ms S w0 ρ a w Q h hA hn hk)
        · rename_i hkn
          exact wp_cond_false (by rw [hce, known_sound hA.path hkn]) (ih d _ y st k nd ms S w0 ρ a w Q h hA hn hk)
        · split at h
          · rename_i n1 n2 h1 h2
            cases h
            rw [ndAnd_holds, ndImp_holds, ndImp_holds] at hn
            refine wp_cond_split hce (fun ht => ?_) (fun hf => ?_)
            · exact ih d _ x { st with path := e :: st.path } k n1 ms S w0 ρ a w Q h1 (hA.path_cons ht) (hn.1 ht) hk
            · have ht : bev ρ (mkNot e) = true := by rw [bev_mkNot, hf]; rfl
              exact ih d _ y { st with path := mkNot e :: st.path } k n2 ms S w0 ρ a w Q h2 (hA.path_cons ht) (hn.2 ht) hk
          · cases h
      · cases h
    · rename_i id b
      refine wp_block (ih d _ b st _ nd ms S w0 ρ a w _ h hA hn fun t => ?_)
      intro ms' st' nd' ρ' a' w' hms hk' hg hA' hn'
      cases t with
      | norm => exact hk .norm ms' st' nd' ρ' a' w' hms (by simpa using hk') hg hA' hn'
      | ret => exact hk .ret ms' st' nd' ρ' a' w' hms (by simpa using hk') hg hA' hn'
      | exit i =>
        simp only [exitOf, Exit.inBlock]
        split
        · rename_i e; subst e
          exact hk .norm ms' st' nd' ρ' a' w' hms (by simpa using hk') hg hA' hn'
        · rename_i e
          exact hk (.exit i) ms' st' nd' ρ' a' w' hms (by simpa [e] using hk') hg hA' hn'
    · rename_i b
      split at h
      · refine wp_loop_rounds lim (loopK_sound (d := d) (fun st k nd ms ρ a w Q h hA hn hk => ih d _ b st k nd ms S w0 ρ a w Q h hA hn hk) lim st nd ms ρ a w h hA hn hk)
      · rename_i L hL
        split at h
        · rename_i r nb hr hb
          cases h
          rw [ndAnd_holds] at hn
          obtain ⟨hinv, hhav⟩ := hn
          obtain ⟨hA1, hg1, hle⟩ := mStX_sound (A := r.1) (hs := r.2) hr hA
          -- the rounds
          have key : ∀ (m : Nat) (ρ1 : Env) (a1 : Act) (w1 : World), Agree st.nv ρ ρ1 → C.inv L.j ρ1 → Rel S w0 ρ1 (L.head (dsts b) st) a1 w1 → C.mu L.j ρ1 ≤ m → Code.rounds P b Q (m + 1) a1 w1 := by
            intro m
            induction m with
            | zero =>
              intro ρ1 a1 w1 hg hi hA1 hm
              refine ih (d + 1) _ b _ _ nb _ S w0 ρ1 a1 w1 _ hb hA1 (hhav ρ1 hg hi) fun t => ?_
              intro ms' st' nd' ρ' a' w' hms hk' hg' hA' hn'
              have hg2 : Agree st.nv ρ1 ρ' := hg'.mono hle
              have hms' : ∀ i, i < d → ms' i = ms i := fun i hi => by
                have := hms i (by omega); rw [this]; exact if_neg (by omega)
              cases t with
              | norm =>
                simp only [Option.map_eq_some_iff] at hk'
                obtain ⟨q, hq, rfl⟩ := hk'
                have hmu := hn'.2
                have : ms' d = C.mu L.j ρ1 := by have := hms d (by omega); rw [this]; exact if_pos rfl
                omega
              | ret => exact hk .ret ms' st' nd' ρ' a' w' hms' hk' (hg.trans hg2) hA' hn'
              | exit i => exact hk (.exit i) ms' st' nd' ρ' a' w' hms' hk' (hg.trans hg2) hA' hn'
            | succ m ihm =>
              intro ρ1 a1 w1 hg hi hA1 hm
              refine ih (d + 1) _ b _ _ nb _ S w0 ρ1 a1 w1 _ hb hA1 (hhav ρ1 hg hi) fun t => ?_
              intro ms' st' nd' ρ' a' w' hms hk' hg' hA' hn'
              have hg2 : Agree st.nv ρ1 ρ' := hg'.mono hle
              have hms' : ∀ i, i < d → ms' i = ms i := fun i hi => by
                have := hms i (by omega); rw [this]; exact if_neg (by omega)
              cases t with
              | norm =>
                simp only [Option.map_eq_some_iff] at hk'
                obtain ⟨q, hq, rfl⟩ := hk'
                obtain ⟨hi', hmu⟩ := hn'
                have : ms' d = C.mu L.j ρ1 := by have := hms d (by omega); rw [this]; exact if_pos rfl
                obtain ⟨hA2, hg3, _⟩ := mStX_sound (A := q.1) (hs := q.2) hq hA'
                exact ihm _ a' w' ((hg.trans hg2).trans hg3) hi' hA2 (by omega)
              | ret => exact hk .ret ms' st' nd' ρ' a' w' hms' hk' (hg.trans hg2) hA' hn'
              | exit i => exact hk (.exit i) ms' st' nd' ρ' a' w' hms' hk' (hg.trans hg2) hA' hn'
          exact wp_loop_rounds _ (key _ _ a w hg1 hinv hA1 (Nat.le_refl _))
        · cases h
    · cases h
theorem exec_ok {dk : Dk} (hΓ : ∀ s ∈ C.Γ, s.OK P) (hdk : DkOK P C dk) (Λ : Loops) (lim : Nat) : ∀ n, ExOK P C (exec P C.Γ dk Λ lim n)
  | 0 => fun d path c st k nd ms S w0 ρ a w Q h => by cases h
  | n + 1 => fun d path c st k nd ms S w0 ρ a w Q h hA hn hk => by
    have ih := exec1_ok hΓ hdk Λ lim (exec_ok hΓ hdk Λ lim n)
    unfold exec at h
    simp only at h
    split at h
    · exact ih d path c st k nd ms S w0 ρ a w Q h hA hn hk
    · rename_i L hL
      split at h
      · rename_i na nb ha hb
        cases h
        rw [ndAnd_holds] at hn
        obtain ⟨hna, hhav⟩ := hn
        refine ih d path c st _ na ms S w0 ρ a w Q ha hA hna fun t => ?_
        intro ms' st' nd' ρ' a' w' hms hk' hg hA' hn'
        cases t with
        | norm =>
          simp only [Option.map_eq_some_iff] at hk'
          obtain ⟨q, hq, rfl⟩ := hk'
          obtain ⟨hA2, hg2, hle⟩ := mStX_sound (A := q.1) (hs := q.2) hq hA'
          have hg3 : Agree st.nv ρ (assign ρ' q.1 q.2) := hg.trans hg2
          exact hk .norm _ _ nb (assign ρ' q.1 q.2) a' w' (fun i hi => if_neg (by omega)) hb hg3 hA2 (hhav _ hg3 hn')
        | ret => exact hk .ret ms' st' nd' ρ' a' w' hms hk' hg hA' hn'
        | exit i => exact hk (.exit i) ms' st' nd' ρ' a' w' hms hk' hg hA' hn'
      · cases h

/-- What is told of a function is what it does. -/
theorem fn_sound {dk : Dk} (hΓ : ∀ s ∈ C.Γ, s.OK P) (hdk : DkOK P C dk) {Λ : Loops} {lim fuel : Nat} {f : FuncId} {args : List TV} {nv : Nat} {path : List E} {nd : Nd} {ms : Nat → Nat} (h : fnVC P C.Γ dk Λ lim fuel f args mem nv path = some nd)
    (hm : MRel S w0 ρ mem w) (hp : Path ρ path) (hn : nd.holds C ms ρ) :
    Calls P f (args.map (TV.ev ρ)).toArray w fun e w' => ∃ ρ' mem' r, e = .returned (r.ev ρ') ∧ Agree nv ρ ρ' ∧ MRel S w0 ρ' mem' w' ∧ C.post ρ' mem' r := by
  have := inlineK_sound (st := ⟨[], mem, nv, path⟩) (exec_ok hΓ hdk Λ lim fuel) h hm hp hn (R := fun v w' => ∃ ρ' mem' r, v = r.ev ρ' ∧ Agree nv ρ ρ' ∧ MRel S w0 ρ' mem' w' ∧ C.post ρ' mem' r)
    (fun ms' r st' nd' ρ' w' _ hk' hg hm' _ hn' => by cases hk'; exact ⟨ρ', _, r, rfl, hg, hm'.sublist pruneM_get, hn'⟩)
  refine this.mono fun e w' ⟨v, he, ρ', mem', r, hv, hg, hm', hp'⟩ => ⟨ρ', mem', r, by rw [he, hv], hg, hm', hp'⟩
end

/-- Regions that draw their order: none. -/
def dkNone : Dk := fun _ _ _ _ _ => none
theorem dkNone_ok (P : Program) (C : Ctx) : DkOK P C dkNone := fun _ _ _ _ _ _ _ _ _ _ _ _ _ _ _ h => by cases h
end Go.Sx
