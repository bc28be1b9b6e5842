/- A symbolic executor of functions that make, turn and share memory: quiet operations proved, contracts, what is owed, appending. What it tells of a piece of code is proved to be what the machine does. -/
import Derived.Laws.MakeOwn
import Derived.Laws.OwnMore
import Derived.Test.YtomdimlnggpgbaaDoorSxA
set_option linter.unusedSimpArgs false
set_option linter.unusedVariables false
set_option linter.constructorNameAsVariable false
namespace Go.Sx
open Go

section
variable {P : Program} {S : Nat → Prop} {w0 : World} {ρ : Env} {st : St} {mem : Mem} {a : Act} {w : World} {n : E} {v : TV}

theorem loadRow_part {t : TypeId} {l : List CV} {o : Nat} {v : SV} (h : loadRow P t l o = some v) : (part t (l.map (CV.ev ρ)).toArray o).run P w = .ok (v.ev ρ) w := by
  unfold loadRow at h
  unfold part
  split at h
  · rename_i n ha hs
    split at h
    · rename_i hle
      cases h
      simp only [Sem.run_bind, aggB_run ha, Result.andThen_ok, if_true, sizeT_run hs, Sem.run_pure, SV.ev]
      congr 2
      simp [List.map_take, List.map_drop, List.extract_eq_take_drop]
    · cases h
  · rename_i ha
    simp only [Option.map_eq_some_iff] at h
    obtain ⟨x, hx, rfl⟩ := h
    simp only [Sem.run_bind, aggB_run ha, Result.andThen_ok, Bool.false_eq_true, if_false]
    have : (l.map (CV.ev ρ)).toArray[o]? = some (x.ev ρ) := by simp [hx]
    simp only [this]
    rfl
  · cases h

theorem unE_sound {op : UnOp} {x : TV} (h : unE op x = some (n, v)) : (Op.unary op (x.ev ρ)).run P w = .ok (v.ev ρ) w := by
  unfold unE at h
  split at h
  · cases h; simp only [TV.ev, SV.ev, CV.ev, bev_mkNot, Op.unary, Sem.run_pure]
  · cases h; simp only [TV.ev, SV.ev, CV.ev, iev_mkWrap, iev_mkSub, iev_lit, Op.unary, Op.intArith, Sem.run_pure]
  · cases h; simp only [TV.ev, SV.ev, CV.ev, iev_bits, iev_lit, Op.unary, Op.intBits, Sem.run_pure, bitsI]
  · cases h

theorem bytesOf_cons (x : Int) (l : List Int) : bytesOf (x :: l) = bytesOf [x] ++ bytesOf l := by
  have key : ∀ (l : List Int) (r : ByteArray), l.foldl (fun r n => r.push (UInt8.ofNat n.toNat)) r = r ++ bytesOf l := by
    intro l
    induction l with
    | nil => intro r; simp [bytesOf]
    | cons y l ih =>
      intro r
      simp only [List.foldl_cons]
      rw [ih]
      have e : bytesOf (y :: l) = ByteArray.empty.push (UInt8.ofNat y.toNat) ++ bytesOf l := by
        show List.foldl _ _ _ = _
        rw [List.foldl_cons, ih]
      rw [e, ← ByteArray.append_assoc]
      congr 1
      apply ByteArray.ext
      simp [ByteArray.data_append, ByteArray.data_push]
  simp only [bytesOf, List.foldl_cons, List.foldl_nil]
  exact key l _

theorem strOf_sound : ∀ (l : List CV) (s : E), strOf l = some s → ∃ ns : List Int, l.map (CV.ev ρ) = ns.map (Value.int .u8) ∧ sev ρ s = bytesOf ns
  | [], s, h => by cases h; exact ⟨[], rfl, rfl⟩
  | c :: l, s, h => by
    unfold strOf at h
    split at h
    · cases ‹c :: l = []›
    · rename_i e l' heq
      cases heq
      simp only [Option.map_eq_some_iff] at h
      obtain ⟨r, hr, rfl⟩ := h
      obtain ⟨ns, h1, h2⟩ := strOf_sound _ r hr
      refine ⟨iev ρ e :: ns, by simp [h1, CV.ev], ?_⟩
      rw [sev_mkCat, sev_sbyte, h2, bytesOf_cons (iev ρ e) ns]
    · cases h

theorem cellBytes_get {h : Hl} {x y n : Nat} (hb : cellBytes h x y n = true) : ∀ j, j < n → h.cell x (y + j) = some (.int .u8 (valI (h.cell x (y + j)))) := by
  intro j hj
  unfold cellBytes at hb
  rw [List.all_eq_true] at hb
  have := hb j (List.mem_range.2 hj)
  cases hc : h.cell x (y + j) with
  | none => simp [hc, valIs] at this
  | some v =>
    rw [hc] at this
    cases v <;> simp [valIs] at this
    rename_i k m
    subst this
    rfl

theorem isU8_eq {el : TypeId} (h : isU8 P el = true) : P.underlying el = some (.int .u8) := by
  unfold isU8 at h; split at h
  · assumption
  · cases h

theorem convE_sound (hm : MRel S w0 ρ mem w) {s d : TypeId} {x : TV} (h : convE P mem s d x = some (n, v)) (hn : bev ρ n = true) : (convert s d (x.ev ρ)).run P w = .ok (v.ev ρ) w := by
  unfold convE at h
  split at h
  · rename_i k k' e hs hd
    cases h
    simp only [TV.ev, SV.ev, CV.ev, iev_mkWrap]
    unfold convert
    simp only [Sem.run_bind, run_underlying hs, run_underlying hd, Result.andThen_ok, Conv.intToInt]
    rfl
  · rename_i e hs hd
    cases h
    simp only [TV.ev, SV.ev, CV.ev]
    unfold convert
    simp only [Sem.run_bind, run_underlying hs, run_underlying hd, Result.andThen_ok]
    rfl
  · rename_i el x y l c hs hd
    split at h
    · rename_i hu
      have he := isU8_eq hu
      split at h
      · rename_i hx
        subst hx
        cases h
        simp only [TV.ev, SV.ev, CV.ev, iev_lit, slP_nil, sev_slit]
        rw [run_convert_bytes_string w s d el _ _ _ hs he hd]
        rfl
      · split at h
        · rename_i a p cs T o m hk0
          obtain ⟨rfl, rfl, hk⟩ := knownP_sound hk0
          split at h
          · rename_i hle
            simp only [Option.map_eq_some_iff, Prod.mk.injEq] at h
            obtain ⟨r, hr, rfl, rfl⟩ := h
            obtain ⟨ns, h1, h2⟩ := strOf_sound (ρ := ρ) _ _ hr
            have hpos : 0 ≤ ρ.i a := hm.pos _ (List.mem_of_getElem? hk)
            simp only [TV.ev, SV.ev, CV.ev, iev_lit, iev_var, slP_pos hpos, Int.toNat_natCast]
            rw [run_convert_bytes_string w s d el _ _ _ hs he hd, run_bytesToString w _ _ _ ns, h2]
            · rfl
            · have hb := hm.blk hk
              have := run_loadCells_list (P := P) w ⟨(ρ.i a).toNat, o, none⟩ (ns.map (Value.int .u8)) (fun j u hu => by
                rw [← h1] at hu
                rw [addr_add]
                simp only [World.cell?, hb]
                simp only [List.getElem?_toArray, Option.isSome_none, Bool.false_eq_true, if_false]
                rw [List.getElem?_map, List.getElem?_take] at hu
                split at hu
                · rw [List.getElem?_drop] at hu; rw [List.getElem?_map]; exact hu
                · simp at hu)
              have hl : (ns.map (Value.int .u8)).length = m.toNat := by rw [← h1]; simp; omega
              rw [hl] at this
              exact this
          · cases h
        · split at h
          · rename_i l _ _ _ _ k hk
            have hsub := fHp_hk hm hk
            cases h
            simp only [TV.ev, SV.ev, CV.ev]
            rw [run_convert_bytes_string w s d el _ _ _ hs he hd]
            rw [bev_mkOr, Bool.or_eq_true, bev_mkEq, iev_lit, decide_eq_true_eq] at hn
            have hsev : ∀ a b : E, sev ρ (mkIte (mkEq x (.lit (-1))) a b) = if iev ρ x = -1 then sev ρ a else sev ρ b := by
              intro a b
              have hq := bev_mkEq ρ x (.lit (-1))
              rw [iev_lit] at hq
              unfold mkIte
              split
              · rename_i e; rw [e, bev_tt] at hq; rw [if_pos (by simpa using hq.symm)]
              · rename_i e; rw [e, bev_ff] at hq; rw [if_neg (by simpa using hq.symm)]
              · split
                · rename_i e; subst e; simp
                · rw [sev_ite, hq]; simp
            rw [hsev]
            by_cases hx : iev ρ x = -1
            · rw [if_pos hx, hx, slP_nil]; rfl
            · rw [if_neg hx]
              have hn := hn.resolve_left hx
              rw [bev_mkOr, Bool.or_eq_true, bev_mkEq, iev_lit, decide_eq_true_eq] at hn
              by_cases hl0 : iev ρ l = 0
              · rw [hl0, sev_sof, hl0]
                cases hp : slP (iev ρ x) (iev ρ y) with
                | none =>
                  have h1 := slP_isNone (iev ρ x) (iev ρ y)
                  rw [hp] at h1
                  exact absurd (by simpa using h1) hx
                | some a0 =>
                  rw [run_bytesToString w a0 _ _ []]
                  · rfl
                  · exact run_loadCells_list (P := P) w a0 [] (fun j u hu => by cases hu)
              have hn := hn.resolve_left hl0
              rw [bev_mkAnd, Bool.and_eq_true, bev_mkAnd, Bool.and_eq_true, bev_mkLe, bev_mkLe, iev_lit, decide_eq_true_eq, decide_eq_true_eq, bev_hby] at hn
              obtain ⟨hx0, hy0, hby⟩ := hn
              rw [slP_pos hx0, sev_sof]
              rw [run_bytesToString w _ _ _ (cellInts (ρ.h k) (iev ρ x).toNat (iev ρ y).toNat (iev ρ l).toNat)]
              · rfl
              · have := run_loadCells_list (P := P) w ⟨(iev ρ x).toNat, (iev ρ y).toNat, none⟩ ((cellInts (ρ.h k) (iev ρ x).toNat (iev ρ y).toNat (iev ρ l).toNat).map (Value.int .u8)) (fun j u hu => by
                  rw [addr_add]
                  unfold cellInts at hu
                  rw [List.map_map, List.getElem?_map] at hu
                  by_cases hj : j < (iev ρ l).toNat
                  · rw [List.getElem?_range hj] at hu
                    simp only [Option.map_some, Option.some.injEq, Function.comp] at hu
                    rw [← hu]
                    exact Hl.sub_cell hsub (cellBytes_get hby j hj)
                  · rw [List.getElem?_eq_none (by simp; omega)] at hu; cases hu)
                have hl : ((cellInts (ρ.h k) (iev ρ x).toNat (iev ρ y).toNat (iev ρ l).toNat).map (Value.int .u8)).length = (iev ρ l).toNat := by simp [cellInts]
                rw [hl] at this
                exact this
          · cases h
    · cases h
  · cases h

theorem fieldPlace_run {m b o : Nat} (fl : Field) (hs : sizeT P fl.type = some (m + 1)) : (fieldPlace ⟨b, o, none⟩ fl).run P w = .ok ⟨b, o + fl.offset, none⟩ w := by
  unfold fieldPlace
  simp only [Sem.run_bind, sizeT_run hs, Result.andThen_ok, Nat.add_eq_zero_iff, Nat.one_ne_zero, and_false, if_false, Sem.run_pure, addr_add]

theorem slP_add {x y : Int} (hx : 0 ≤ x) (hy : 0 ≤ y) (n : Nat) : slP x (y + n) = some ⟨x.toNat, y.toNat + n, none⟩ := by
  rw [slP_pos hx]; congr 2; omega

theorem fBlk_pos (hm : MRel S w0 ρ mem w) {a : Nat} (h : (fBlk mem a).isSome = true) : 0 ≤ ρ.i a := by
  obtain ⟨⟨p, l, T⟩, hp⟩ := Option.isSome_iff_exists.1 h
  exact hm.pos _ (List.mem_of_getElem? (fBlk_sound hp))

theorem pti_nat {o s : Nat} {i : Int} (h : 0 ≤ i) : ((o : Int) + (s : Int) * i) = ((o + s * i.toNat : Nat) : Int) := by
  obtain ⟨q, hq⟩ := Int.eq_ofNat_of_zero_le h
  rw [hq, Int.toNat_natCast]; simp

theorem fieldAddrE_sound (hm : MRel S w0 ρ mem w) {s : TypeId} {f : Nat} {x : TV} (h : fieldAddrE P mem s f x = some (n, v)) (hn : bev ρ n = true) : (Instr.fieldAt s (x.ev ρ) f).run P w = .ok (v.ev ρ) w := by
  unfold fieldAddrE at h
  split at h
  · rename_i fs hu
    split at h
    · rename_i fl hf
      split at h
      · rename_i m hs
        have key : ∀ b o, (Instr.fieldAt s (.pointer (some ⟨b, o, none⟩)) f).run P w = .ok (.pointer (some ⟨b, o + fl.offset, none⟩)) w := fun b o => by
          unfold Instr.fieldAt
          simp only [Sem.run_bind, run_underlying hu, Result.andThen_ok, hf, Instr.sureAddr, Sem.run_pure, fieldPlace_run fl hs]
        split at h
        · rename_i x y
          cases h
          rw [bev_mkAnd, Bool.and_eq_true, bev_mkLe, iev_lit, decide_eq_true_eq] at hn
          have hx := hm.nnX hn.1
          simp only [TV.ev, SV.ev, CV.ev, iev_mkAdd, iev_lit]
          rw [slP_pos hx, key, slP_add hx hn.2]
        · rename_i a o s' n' i
          split at h
          · rename_i ha
            cases h
            obtain ⟨h0, h1⟩ := inB_sound hn
            have hx := fBlk_pos hm ha
            simp only [TV.ev, SV.ev, CV.ev]
            rw [slP_pos hx, key, pti_nat h0, pti_nat h0, Int.toNat_natCast, slP_pos hx, Int.toNat_natCast]
            congr 4
            omega
          · cases h
        · cases h
      · cases h
    · cases h
  · cases h

theorem indexAt_arr {t el : TypeId} {len m b o : Nat} {k : IntKind} {i : Int} (hu : P.underlying t = some (.array len el)) (hs : sizeT P el = some m) (h0 : 0 ≤ i) (h1 : i < len) :
    (Instr.indexAt t (.pointer (some ⟨b, o, none⟩)) (.int k i)).run P w = .ok (.pointer (some ⟨b, o + i.toNat * m, none⟩)) w := by
  unfold Instr.indexAt
  simp only [asIntOf, Sem.run_bind, Sem.run_pure, Result.andThen_ok, run_underlying hu, Instr.sureAddr, h0, h1, and_self, if_true, sizeT_run hs, addr_add]
theorem indexAt_slice {t el : TypeId} {len c m b o : Nat} {k : IntKind} {i : Int} (hu : P.underlying t = some (.slice el)) (hs : sizeT P el = some m) (h0 : 0 ≤ i) (h1 : i < len) :
    (Instr.indexAt t (.slice (some ⟨b, o, none⟩) len c) (.int k i)).run P w = .ok (.pointer (some ⟨b, o + i.toNat * m, none⟩)) w := by
  unfold Instr.indexAt
  simp only [asIntOf, Sem.run_bind, Sem.run_pure, Result.andThen_ok, run_underlying hu, h0, h1, and_self, if_true, sizeT_run hs, addr_add]

theorem mul_toNat {i : Int} (h : 0 ≤ i) (m : Nat) : i * (m : Int) = ((i.toNat * m : Nat) : Int) := by
  obtain ⟨q, hq⟩ := Int.eq_ofNat_of_zero_le h
  rw [hq, Int.toNat_natCast]; simp

theorem indexAddrE_sound (hm : MRel S w0 ρ mem w) {t : TypeId} {x i : TV} (h : indexAddrE P mem t x i = some (n, v)) (hn : bev ρ n = true) : (Instr.indexAt t (x.ev ρ) (i.ev ρ)).run P w = .ok (v.ev ρ) w := by
  unfold indexAddrE at h
  split at h
  · rename_i k e
    split at h
    · rename_i len el hu
      split at h
      · rename_i m a o s q kk hs
        split at h
        · rename_i j
          split at h
          · rename_i hj
            cases h
            obtain ⟨h0, h1⟩ := inB_sound hn
            have hx := fBlk_pos hm hj.2.2
            simp only [TV.ev, SV.ev, CV.ev, iev_lit]
            rw [slP_pos hx, indexAt_arr hu hs hj.1 hj.2.1, pti_nat h0, pti_nat h0, Int.toNat_natCast, slP_pos hx, Int.toNat_natCast]
            congr 4
            omega
          · cases h
        · cases h
      · rename_i m x y hs
        split at h
        · rename_i j _
          split at h
          · rename_i hj
            cases h
            rw [bev_mkAnd, Bool.and_eq_true, bev_mkLe, iev_lit, decide_eq_true_eq] at hn
            have hx := hm.nnX hn.1
            simp only [TV.ev, SV.ev, CV.ev, iev_lit, iev_mkAdd]
            rw [slP_pos hx, indexAt_arr hu hs hj.1 hj.2, ← Int.natCast_mul, slP_add hx hn.2]
          · cases h
        · rename_i e a p l T o _ hk0
          obtain ⟨rfl, rfl, hk⟩ := knownP_sound hk0
          cases h
          obtain ⟨h0, h1⟩ := inB_sound hn
          have hx : 0 ≤ ρ.i a := hm.pos _ (List.mem_of_getElem? hk)
          simp only [TV.ev, SV.ev, CV.ev, iev_var, iev_lit]
          rw [slP_pos hx, Int.toNat_natCast, indexAt_arr hu hs h0 h1, pti_nat h0, slP_pos hx, Int.toNat_natCast, Nat.mul_comm]
        · rename_i e _ _
          cases h
          rw [bev_mkAnd, Bool.and_eq_true, bev_mkAnd, Bool.and_eq_true, bev_mkLe, iev_lit, decide_eq_true_eq] at hn
          obtain ⟨hx, hy, hb⟩ := hn
          have hx := hm.nnX hx
          obtain ⟨h0, h1⟩ := inB_sound hb
          simp only [TV.ev, SV.ev, CV.ev, iev_mkAdd, iev_mkMul, iev_lit]
          rw [slP_pos hx, indexAt_arr hu hs h0 h1, mul_toNat h0, slP_add hx hy]
      · cases h
    · rename_i el hu
      split at h
      · rename_i m x y l c hs
        split at h
        · rename_i j _ _
          cases h
          rw [bev_mkAnd, Bool.and_eq_true, bev_mkAnd, Bool.and_eq_true, bev_mkAnd, Bool.and_eq_true, bev_mkLe, bev_mkLe, bev_mkLt, decide_eq_true_eq, decide_eq_true_eq, decide_eq_true_eq, iev_lit, iev_lit] at hn
          obtain ⟨hx, hy, h0, h1⟩ := hn
          have hx := hm.nnX hx
          simp only [TV.ev, SV.ev, CV.ev, iev_mkAdd, iev_mkMul, iev_lit]
          rw [slP_pos hx, indexAt_slice hu hs h0 (by omega), mul_toNat h0, slP_add hx hy]
        · rename_i a p l' T o q _ hk0
          obtain ⟨rfl, rfl, hk⟩ := knownP_sound hk0
          cases h
          rw [bev_mkAnd, Bool.and_eq_true] at hn
          obtain ⟨h0, h1⟩ := inB_sound hn.1
          have hx : 0 ≤ ρ.i a := hm.pos _ (List.mem_of_getElem? hk)
          simp only [TV.ev, SV.ev, CV.ev, iev_var, iev_lit]
          rw [slP_pos hx, Int.toNat_natCast, indexAt_slice hu hs h0 (by omega), pti_nat h0, slP_pos hx, Int.toNat_natCast, Nat.mul_comm]
        · cases h
          rw [bev_mkAnd, Bool.and_eq_true, bev_mkAnd, Bool.and_eq_true, bev_mkAnd, Bool.and_eq_true, bev_mkLe, bev_mkLe, bev_mkLt, decide_eq_true_eq, decide_eq_true_eq, decide_eq_true_eq, iev_lit] at hn
          obtain ⟨hx, hy, h0, h1⟩ := hn
          have hx := hm.nnX hx
          simp only [TV.ev, SV.ev, CV.ev, iev_mkAdd, iev_mkMul, iev_lit]
          rw [slP_pos hx, indexAt_slice hu hs h0 (by omega), mul_toNat h0, slP_add hx hy]
      · cases h
    · cases h
  · cases h
theorem fieldE_sound {t : TypeId} {f : Nat} {x : TV} (h : fieldE P t f x = some (n, v)) : (Instr.field t (x.ev ρ) f).run P w = .ok (v.ev ρ) w := by
  unfold fieldE at h
  split at h
  · rename_i fs l hu
    split at h
    · rename_i fl hf
      simp only [Option.map_eq_some_iff, Prod.mk.injEq] at h
      obtain ⟨u, hu', _, rfl⟩ := h
      unfold Instr.field
      simp only [Sem.run_bind, run_underlying hu, Result.andThen_ok, hf, TV.ev, SV.ev, asAgg, Sem.run_pure]
      exact loadRow_part hu'
    · cases h
  · cases h

theorem index_arr {t el : TypeId} {len m : Nat} {k : IntKind} {i : Int} {l : List CV} {u : SV} (hu : P.underlying t = some (.array len el)) (hs : sizeT P el = some m) (h0 : 0 ≤ i) (h1 : i < len)
    (hl : loadRow P el l (i.toNat * m) = some u) : (Instr.index t (.agg (l.map (CV.ev ρ)).toArray) (.int k i)).run P w = .ok (u.ev ρ) w := by
  unfold Instr.index
  simp only [asIntOf, Sem.run_bind, Sem.run_pure, Result.andThen_ok, run_underlying hu, h0, h1, and_self, if_true, sizeT_run hs]
  exact loadRow_part hl


theorem indexE_sound {t : TypeId} {x i : TV} (h : indexE P t x i = some (n, v)) (hn : bev ρ n = true) : (Instr.index t (x.ev ρ) (i.ev ρ)).run P w = .ok (v.ev ρ) w := by
  unfold indexE at h
  split at h
  · rename_i len el l k e hu
    split at h
    · rename_i m hs
      split at h
      · rename_i j
        split at h
        · rename_i hj
          simp only [Option.map_eq_some_iff, Prod.mk.injEq] at h
          obtain ⟨u, hu', _, rfl⟩ := h
          simp only [TV.ev, SV.ev, CV.ev, iev_lit]
          exact index_arr hu hs hj.1 hj.2 hu'
        · cases h
      · split at h
        · rename_i vs hvs
          simp only [Option.map_eq_some_iff, Prod.mk.injEq] at h
          obtain ⟨u, hu', rfl, rfl⟩ := h
          obtain ⟨h0, h1⟩ := inB_sound hn
          obtain ⟨hlen, hget⟩ := allSome_get hvs
          simp only [List.length_map, List.length_range] at hlen
          obtain ⟨z, hz, hzv⟩ := selSV_ev vs 0 u hu' (by omega) (by omega)
          have hz' := hget _ _ hz
          rw [Nat.sub_zero, List.getElem?_map, List.getElem?_range (by omega)] at hz'
          simp only [Option.map_some, Option.some.injEq] at hz'
          simp only [TV.ev, hzv]
          exact index_arr hu hs h0 h1 hz'
        · cases h
    · cases h
  · rename_i s k e hu
    cases h
    rw [bev_mkAnd, Bool.and_eq_true, bev_mkLe, bev_mkLt, decide_eq_true_eq, decide_eq_true_eq, iev_lit, iev_mkLen] at hn
    obtain ⟨h0, h1⟩ := hn
    unfold Instr.index
    simp only [TV.ev, SV.ev, CV.ev, asIntOf, Sem.run_bind, Sem.run_pure, Result.andThen_ok, run_underlying hu, h0, if_true]
    have hlt : (iev ρ e).toNat < (sev ρ s).size := by omega
    have e1 : (sev ρ s)[(iev ρ e).toNat]? = some ((sev ρ s)[(iev ρ e).toNat]'hlt) := getElem?_pos (sev ρ s) (iev ρ e).toNat hlt
    have e2 : (sev ρ s).data[(iev ρ e).toNat]?.getD 0 = (sev ρ s)[(iev ρ e).toNat]'hlt := by
      rw [getElem?_pos (sev ρ s).data (iev ρ e).toNat hlt]; rfl
    simp only [e1, iev_sat, e2]
    rfl
  · cases h

theorem extractE_sound {i : Nat} {x : TV} (h : extractE i x = some (n, v)) : (Instr.extract (x.ev ρ) i).run P w = .ok (v.ev ρ) w := by
  unfold extractE at h
  split at h
  · simp only [Option.map_eq_some_iff, Prod.mk.injEq] at h
    obtain ⟨u, hu, _, rfl⟩ := h
    unfold Instr.extract
    simp only [TV.ev]
    have : ((List.map (SV.ev ρ) ‹_›).toArray)[i]? = some (u.ev ρ) := by simp [hu]
    simp only [this]
    rfl
  · cases h



theorem lenE_sound (hm : MRel S w0 ρ mem w) {t ty : TypeId} {ats : Array TypeId} {x : TV} (ht : ats[0]? = some t) (h : lenE P mem t x = some (n, v)) (hn : bev ρ n = true) : (Builtin.len_ ats ty #[x.ev ρ]).run P w = .ok (v.ev ρ) w := by
  unfold lenE at h
  unfold Builtin.len_
  have h0 : (#[x.ev ρ] : Array Value)[0]? = some (x.ev ρ) := rfl
  simp only [ht, h0]
  split at h
  · rename_i m _ hu
    cases h
    simp only [Sem.run_bind, run_underlying hu, Result.andThen_ok]
    rfl
  · rename_i el _ _ l _ hu
    cases h
    rw [bev_mkLe, decide_eq_true_eq, iev_lit] at hn
    simp only [Sem.run_bind, run_underlying hu, Result.andThen_ok, TV.ev, SV.ev, CV.ev, Sem.run_pure, goInt, Int.toNat_of_nonneg hn]
  · rename_i e hu
    cases h
    simp only [Sem.run_bind, run_underlying hu, Result.andThen_ok, TV.ev, SV.ev, CV.ev, Sem.run_pure, goInt, iev_mkLen]
  · rename_i k vt x hu
    split at h
    · rename_i q hq
      have hsub := fHp_hk hm hq
      cases h
      rw [bev_mkAnd, Bool.and_eq_true, bev_mkAnd, Bool.and_eq_true, bev_mkLe, iev_lit, decide_eq_true_eq, bev_hism] at hn
      obtain ⟨hx, _, he⟩ := hn
      have hne : ¬ iev ρ x = -1 := by omega
      obtain ⟨es, c, he⟩ : ∃ es c, ρ.h q (iev ρ x).toNat = some (.map es c) := by
        revert he; generalize ρ.h q (iev ρ x).toNat = o; intro he
        cases o with
        | none => cases he
        | some o => cases o <;> first | exact ⟨_, _, rfl⟩ | cases he
      have hw := hsub _ _ he
      simp only [Sem.run_bind, run_underlying hu, Result.andThen_ok, TV.ev, SV.ev, CV.ev, if_neg hne, Sem.run_pure, goInt, iev_hmlen, he, mapLen]
      simp [getObj, Sem.run, hw]
    · cases h
  · cases h

theorem minE_sound {x y z : TV} (h : minE x y = some z) : (Builtin.min2 (x.ev ρ) (y.ev ρ)).run P w = .ok (z.ev ρ) w := by
  unfold minE at h
  split at h
  · cases h
    simp only [TV.ev, SV.ev, CV.ev, Builtin.min2, iev_mkIte, bev_mkLt, decide_eq_true_eq, Sem.run_pure]
  · cases h
theorem maxE_sound {x y z : TV} (h : maxE x y = some z) : (Builtin.max2 (x.ev ρ) (y.ev ρ)).run P w = .ok (z.ev ρ) w := by
  unfold maxE at h
  split at h
  · cases h
    simp only [TV.ev, SV.ev, CV.ev, Builtin.max2, iev_mkIte, bev_mkLt, decide_eq_true_eq, Sem.run_pure, GT.gt]
  · cases h
theorem foldE_sound {f : TV → TV → Option TV} {F : Value → Value → Sem Value} (hf : ∀ x y z, f x y = some z → (F (x.ev ρ) (y.ev ρ)).run P w = .ok (z.ev ρ) w) :
    ∀ (l : List TV) (x z : TV), foldE f l x = some z → ((l.map (TV.ev ρ)).foldlM F (x.ev ρ)).run P w = .ok (z.ev ρ) w
  | [], x, z, h => by cases h; rfl
  | y :: l, x, z, h => by
    simp only [foldE] at h
    split at h
    · rename_i u hu
      simp only [List.map_cons, List.foldlM_cons, Sem.run_bind, hf x y u hu, Result.andThen_ok]
      exact foldE_sound hf l u z h
    · cases h


theorem opnds_sound (h : Rel S w0 ρ st a w) : ∀ (l : List Operand) (vs : List TV), opnds st l = some vs → l.map a.eval = vs.map (TV.ev ρ)
  | [], vs, ho => by cases ho; rfl
  | x :: l, vs, ho => by
    simp only [opnds] at ho
    split at ho
    · rename_i v1 v2 h1 h2
      cases ho
      simp only [List.map_cons, opnd_sound h h1, opnds_sound h l _ h2]
    · cases ho

theorem builtinE_sound (hm : MRel S w0 ρ mem w) {b : Builtin} {ats : Array TypeId} {ty : TypeId} {cs : Array Bool} {vs : List TV} (h : builtinE P mem b ats vs = some (n, v)) (hn : bev ρ n = true) :
    (builtin b ats ty cs (vs.map (TV.ev ρ)).toArray).run P w = .ok (.value (v.ev ρ)) w := by
  unfold builtinE at h
  split at h
  · split at h
    · rename_i t ht
      have := lenE_sound hm (ty := ty) ht h hn
      unfold builtin
      simp only [List.map_cons, List.map_nil, Sem.run_bind, this, Result.andThen_ok, Sem.run_pure]
    · cases h
  · simp only [Option.map_eq_some_iff, Prod.mk.injEq] at h
    obtain ⟨u, hu, _, rfl⟩ := h
    have := foldE_sound (P := P) (w := w) (ρ := ρ) (fun x y z => minE_sound) _ _ _ hu
    unfold builtin
    simp only [List.map_cons, Sem.run_bind, Builtin.min_, this, Result.andThen_ok, Sem.run_pure]
  · simp only [Option.map_eq_some_iff, Prod.mk.injEq] at h
    obtain ⟨u, hu, _, rfl⟩ := h
    have := foldE_sound (P := P) (w := w) (ρ := ρ) (fun x y z => maxE_sound) _ _ _ hu
    unfold builtin
    simp only [List.map_cons, Sem.run_bind, Builtin.max_, this, Result.andThen_ok, Sem.run_pure]
  · cases h

theorem foldl_splice (off : Nat) : ∀ (vs : List Value) (k : Nat) (arr : Array Value), off + k + vs.length ≤ arr.size →
    (vs.zipIdx k).foldl (fun cs (p : Value × Nat) => cs.setIfInBounds (off + p.2) p.1) arr = (splice arr.toList (off + k) vs).toArray
  | [], k, arr, h => by simp [splice]
  | x :: vs, k, arr, h => by
    simp only [List.length_cons] at h
    rw [List.zipIdx_cons, List.foldl_cons, foldl_splice off vs (k + 1) _ (by simp; omega)]
    congr 1
    have := list_seg_step arr.toList (off + k) x vs (by simp; omega)
    simpa [splice, Array.toList_setIfInBounds, Nat.add_assoc] using this

theorem fillE_sound {place : Nat → Option (Nat × Nat)} : ∀ (ps : List (Nat × SV)) (l r : List CV), fillE place l ps = some r →
    Instr.fill place (l.map (CV.ev ρ)).toArray (ps.map fun p => (p.1, p.2.ev ρ)) = some (r.map (CV.ev ρ)).toArray
  | [], l, r, h => by cases h; rfl
  | (i, v) :: ps, l, r, h => by
    simp only [fillE] at h
    split at h
    · cases h
    · rename_i off size hp
      split at h
      · rename_i hc
        obtain ⟨h1, h2, h3⟩ := hc
        have hcs := SV.cells_ev (ρ := ρ) v h3
        have hsz : (v.ev ρ).cells.size = v.cells.length := by rw [← Array.length_toList, hcs]; simp
        have hle : ¬ off + (v.ev ρ).cells.size > (l.map (CV.ev ρ)).toArray.size := by rw [hsz]; simp; omega
        simp only [List.map_cons, Instr.fill, hp]
        rw [if_neg (by simp only [hsz, h1, ne_eq, not_true_eq_false, decide_false, Bool.false_or, decide_eq_true_eq]; rw [← h1, ← hsz]; exact hle)]
        have e : (v.ev ρ).cells.zipIdx.foldl (fun cs (p : Value × Nat) => cs.setIfInBounds (off + p.2) p.1) (l.map (CV.ev ρ)).toArray = ((splice l off v.cells).map (CV.ev ρ)).toArray := by
          rw [← Array.foldl_toList, Array.toList_zipIdx, hcs]
          have := foldl_splice off (v.cells.map (CV.ev ρ)) 0 (l.map (CV.ev ρ)).toArray (by simp; omega)
          rw [this]
          simp [splice, List.map_append, List.map_take, List.map_drop]
        have ih := fillE_sound ps _ _ h
        rw [← ih]
        exact congrArg (fun z => Instr.fill place z _) e
      · cases h

theorem svs_ev : ∀ (l : List TV) (m : List SV), svs l = some m → l.map (TV.ev ρ) = m.map (SV.ev ρ)
  | [], m, h => by cases h; rfl
  | .sv v :: l, m, h => by
    simp only [svs, Option.map_eq_some_iff] at h
    obtain ⟨r, hr, rfl⟩ := h
    simp only [List.map_cons, svs_ev l r hr]; rfl
  | .tup _ :: l, m, h => by simp [svs] at h

theorem places_run : ∀ (fs : List Field) (ps : List (Nat × Nat)), allSome (fs.map fun f => (sizeT P f.type).map fun n => (f.offset, n)) = some ps →
    (fs.mapM fun (f : Field) => (do pure (f.offset, ← sizeOf f.type) : Sem (Nat × Nat))).run P w = .ok ps w
  | [], ps, h => by cases h; rfl
  | f :: fs, ps, h => by
    simp only [List.map_cons] at h
    cases hs : sizeT P f.type with
    | none => simp [hs, allSome] at h
    | some m =>
      simp only [hs, Option.map_some, allSome, Option.map_eq_some_iff] at h
      obtain ⟨r, hr, rfl⟩ := h
      have ih := places_run fs r hr
      simp only [List.mapM_cons, Sem.run_bind, sizeT_run hs, Result.andThen_ok, Sem.run_pure, ih]

theorem map_zip2 {α β γ : Type} {f : α → β} {h : α → γ} : ∀ (l : List α), l.map (fun x => (f x, h x)) = (l.map f).zip (l.map h)
  | [] => rfl
  | x :: l => by simp [map_zip2 l]
theorem zip_ev : ∀ (is : List Nat) (vs : List SV), (is.zip vs).map (fun p => (p.1, p.2.ev ρ)) = is.zip (vs.map (SV.ev ρ))
  | [], _ => rfl
  | _ :: _, [] => rfl
  | i :: is, v :: vs => by simp [zip_ev is vs]

theorem buildE_sound {t : TypeId} {is : List Nat} {vs : List TV} (h : buildE P t is vs = some (n, v)) : (Instr.build t (is.zip (vs.map (TV.ev ρ))).toArray).run P w = .ok (v.ev ρ) w := by
  unfold buildE at h
  split at h
  · rename_i z us hz hus
    rw [svs_ev _ _ hus, ← zip_ev]
    have hzc : z.cells = ((z.cells.toList.map liftC).map (CV.ev ρ)).toArray := by rw [map_liftC]
    unfold Instr.build
    simp only [Sem.run_bind, zeroT_run hz, Result.andThen_ok]
    split at h
    · rename_i fs hu
      split at h
      · rename_i places hp
        simp only [Option.map_eq_some_iff, Prod.mk.injEq] at h
        obtain ⟨r, hr, _, rfl⟩ := h
        have hf := fillE_sound (ρ := ρ) _ _ _ hr
        rw [← hzc] at hf
        have hpl : (fs.mapM fun (f : Field) => (do pure (f.offset, ← sizeOf f.type) : Sem (Nat × Nat))).run P w = .ok places.toArray w := by
          have := places_run (w := w) _ _ hp
          obtain ⟨fs⟩ := fs
          simp only [List.mapM_toArray, Sem.run_map, this, Result.andThen_ok]
        simp only [run_underlying hu, Result.andThen_ok, Sem.run_bind, hpl]
        have e : (fun (i : Nat) => places.toArray[i]?) = (fun (i : Nat) => places[i]?) := by funext i; simp
        simp only [e, hf]
        rfl
      · cases h
    · rename_i m el hu
      split at h
      · rename_i q hs
        simp only [Option.map_eq_some_iff, Prod.mk.injEq] at h
        obtain ⟨r, hr, _, rfl⟩ := h
        have hf := fillE_sound (ρ := ρ) _ _ _ hr
        rw [← hzc] at hf
        simp only [run_underlying hu, Result.andThen_ok, Sem.run_bind, sizeT_run hs, hf]
        rfl
      · cases h
    · cases h
  · cases h

theorem eqFsE_sound {rec : TypeId → SV → SV → Option E} {D : Nat} (hrec : ∀ t x y e, rec t x y = some e → (Op.equalIn D t (x.ev ρ) (y.ev ρ)).run P w = .ok (bev ρ e) w) {xs ys : List CV} :
    ∀ (fs : List Field) (e : E), eqFsE P rec xs ys fs = some e → (Op.eqFields D (xs.map (CV.ev ρ)).toArray (ys.map (CV.ev ρ)).toArray fs).run P w = .ok (bev ρ e) w
  | [], e, h => by cases h; simp [Op.eqFields, bev_tt]
  | f :: fs, e, h => by
    unfold eqFsE at h
    unfold Op.eqFields
    split at h
    · rename_i hn
      rw [if_pos hn]
      split at h
      · rename_i a b ha hb
        split at h
        · rename_i q r hq hr
          cases h
          have ih := eqFsE_sound hrec fs r hr
          simp only [Sem.run_bind, loadRow_part ha, loadRow_part hb, Result.andThen_ok, hrec _ _ _ _ hq, bev_mkAnd]
          cases hb : bev ρ q with
          | true => simpa using ih
          | false => simp
        · cases h
      · cases h
    · rename_i hn
      rw [if_neg hn]
      exact eqFsE_sound hrec fs e h
theorem eqIsE_sound {rec : TypeId → SV → SV → Option E} {D : Nat} (hrec : ∀ t x y e, rec t x y = some e → (Op.equalIn D t (x.ev ρ) (y.ev ρ)).run P w = .ok (bev ρ e) w) {t : TypeId} {xs ys : List CV} :
    ∀ (is : List Nat) (e : E), eqIsE P rec t xs ys is = some e → (Op.eqItems D t (P.cellsOf t) (xs.map (CV.ev ρ)).toArray (ys.map (CV.ev ρ)).toArray is).run P w = .ok (bev ρ e) w
  | [], e, h => by cases h; simp [Op.eqItems, bev_tt]
  | i :: is, e, h => by
    unfold eqIsE at h
    unfold Op.eqItems
    split at h
    · rename_i a b ha hb
      split at h
      · rename_i q r hq hr
        cases h
        have ih := eqIsE_sound hrec is r hr
        simp only [Sem.run_bind, loadRow_part ha, loadRow_part hb, Result.andThen_ok, hrec _ _ _ _ hq, bev_mkAnd]
        cases hb : bev ρ q with
        | true => simpa using ih
        | false => simp
      · cases h
    · cases h

theorem ba_beq (a b : ByteArray) : (a == b) = decide (a = b) := by
  rw [Bool.eq_iff_iff]
  simp only [decide_eq_true_eq]
  cases a; cases b
  simp only [BEq.beq, ByteArray.beq, ByteArray.mk.injEq]
  exact ⟨fun h => Array.eq_of_isEqv _ _ (by simpa [BEq.beq] using h), fun h => by subst h; simpa [BEq.beq] using Array.isEqv_self _⟩

theorem eqSV_shape {d : Nat} {t : TypeId} {a b : CV} {e : E} (h : eqSV P (d+1) t (.one a) (.one b) = some e) : (∃ k x k' y, a = .int k x ∧ b = .int k' y) ∨ (∃ x y, a = .str x ∧ b = .str y) ∨ (∃ x y, a = .bool x ∧ b = .bool y) ∨ (∃ x y l c x' y' l' c', a = .sl x y l c ∧ b = .sl x' y' l' c') ∨ (∃ x y x' y', a = .hptr x y ∧ b = .hptr x' y') ∨ (∃ x y, a = .map x ∧ b = .map y) := by
  unfold eqSV at h
  cases hu : P.underlying t with
  | none => simp [hu] at h
  | some d' => cases d' <;> simp only [hu] at h <;> first | (cases h; done) | (cases a <;> first | (cases h; done) | (cases b <;> first | (cases h; done) | simp))

theorem nilEq_sound {x x' : E} {e : E} (he : (if x' = .lit (-1) then some (mkEq x (.lit (-1))) else if x = .lit (-1) then some (mkEq x' (.lit (-1))) else none) = some e) :
    (iev ρ x' = -1 ∧ bev ρ e = decide (iev ρ x = -1)) ∨ (iev ρ x = -1 ∧ bev ρ e = decide (iev ρ x' = -1)) := by
  split at he
  · rename_i hx; cases he; subst hx; exact Or.inl ⟨rfl, by rw [bev_mkEq]; rfl⟩
  · split at he
    · rename_i hx; cases he; subst hx; exact Or.inr ⟨rfl, by rw [bev_mkEq]; rfl⟩
    · cases he

theorem eqSV_sound : ∀ (d : Nat) (t : TypeId) (x y : SV) (e : E) (D : Nat), d ≤ D → eqSV P d t x y = some e → (Op.equalIn D t (x.ev ρ) (y.ev ρ)).run P w = .ok (bev ρ e) w
  | 0, _, _, _, _, _, _, h => by cases h
  | d + 1, t, x, y, e, D, hD, h => by
    obtain ⟨D, rfl⟩ : ∃ D', D = D' + 1 := ⟨D - 1, by omega⟩
    have ih : ∀ t x y e, eqSV P d t x y = some e → (Op.equalIn D t (x.ev ρ) (y.ev ρ)).run P w = .ok (bev ρ e) w := fun t x y e h => eqSV_sound d t x y e D (by omega) h
    unfold eqSV at h
    split at h
    · rename_i hu
      split at h
      · cases h
        simp [Op.equalIn, Sem.run_bind, run_underlying hu, SV.ev, CV.ev, bev_mkBeq]
      · cases h
    · rename_i kk hu
      split at h
      · split at h
        · rename_i hk
          subst hk
          cases h
          simp [Op.equalIn, Sem.run_bind, run_underlying hu, SV.ev, CV.ev, bev_mkEq]
          rfl
        · cases h
      · cases h
    · rename_i hu
      split at h
      · rename_i a b
        cases h
        have : (sev ρ a == sev ρ b) = decide (sev ρ a = sev ρ b) := ba_beq _ _
        simp only [Op.equalIn, Sem.run_bind, run_underlying hu, SV.ev, CV.ev, bev_mkSeq, Result.andThen_ok, Sem.run_pure, this]
      · cases h
    · rename_i el hu
      split at h
      · rename_i x l1 q1 z1 x' l2 q2 z2
        rw [Op.equalIn]
        simp only [Sem.run_bind, run_underlying hu, Result.andThen_ok, SV.ev, CV.ev]
        rcases nilEq_sound (ρ := ρ) h with ⟨h1, h2⟩ | ⟨h1, h2⟩
        · rw [h1, slP_nil, h2]
          cases hs : slP (iev ρ x) (iev ρ l1) with
          | none => have := slP_isNone (iev ρ x) (iev ρ l1); rw [hs] at this; simp at this; simp [this]
          | some q => have := slP_isNone (iev ρ x) (iev ρ l1); rw [hs] at this; simp at this; simp [this]
        · rw [h1, slP_nil, h2]
          simp [slP_isNone]
      · cases h
    · rename_i el hu
      split at h
      · rename_i x l1 x' l2
        rw [Op.equalIn]
        simp only [Sem.run_bind, run_underlying hu, Result.andThen_ok, SV.ev, CV.ev]
        rcases nilEq_sound (ρ := ρ) h with ⟨h1, h2⟩ | ⟨h1, h2⟩
        · rw [h1, slP_nil, h2]
          cases hs : slP (iev ρ x) (iev ρ l1) with
          | none => have := slP_isNone (iev ρ x) (iev ρ l1); rw [hs] at this; simp at this; simp [this]
          | some q => have := slP_isNone (iev ρ x) (iev ρ l1); rw [hs] at this; simp at this; simp [this]
        · rw [h1, slP_nil, h2]
          simp [slP_isNone]
      · cases h
    · rename_i k el hu
      split at h
      · rename_i x x'
        rw [Op.equalIn]
        simp only [Sem.run_bind, run_underlying hu, Result.andThen_ok, SV.ev, CV.ev]
        rcases nilEq_sound (ρ := ρ) h with ⟨h1, h2⟩ | ⟨h1, h2⟩
        · rw [h1, if_pos rfl, h2]
          by_cases hx : iev ρ x = -1
          · simp [hx]
          · simp [hx]
        · rw [h1, if_pos rfl, h2]
          by_cases hx : iev ρ x' = -1
          · simp [hx]
          · simp [hx]
      · cases h
    · rename_i fs hu
      split at h
      · split at h
        · rename_i hp
          have hf : P.fieldsOf t = fs := by simp [Program.fieldsOf, hu]
          simp only [SV.ev]
          rw [run_equalIn_struct w D t _ _ (by rw [hf]; exact hu) hp, hf]
          exact eqFsE_sound ih _ _ h
        · cases h
      · cases h
    · rename_i n el hu
      split at h
      · split at h
        · rename_i i hi
          simp only [SV.ev]
          rw [run_equalIn_array w D _ _ hu hi]
          exact eqIsE_sound ih _ _ h
        · cases h
      · cases h
    · cases h

theorem binE_sound {op : BinOp} {t : TypeId} {x y : TV} {X Y : Operand} (h : binE P op t x y = some (n, v)) (hn : bev ρ n = true) :
    Sem.run P (do eqGuard op t X Y (x.ev ρ) (y.ev ρ); binOp op t (x.ev ρ) (y.ev ρ)) w = .ok (v.ev ρ) w := by
  unfold binE at h
  split at h
  · rename_i k a k' b
    have := binI_sound (T := t) (w := w) (P := P) h hn
    simp only [TV.ev, SV.ev, CV.ev] at this ⊢
    have hg : (eqGuard op t X Y (.int k (iev ρ a)) (.int k' (iev ρ b))).run P w = .ok () w := by
      unfold eqGuard; split <;> rfl
    simp only [Sem.run_bind, hg, Result.andThen_ok]
    exact this
  · rename_i a b
    have := binS_sound (T := t) (w := w) (P := P) h hn
    simp only [TV.ev, SV.ev, CV.ev] at this ⊢
    have hg : (eqGuard op t X Y (.string (sev ρ a)) (.string (sev ρ b))).run P w = .ok () w := by
      unfold eqGuard; split <;> rfl
    simp only [Sem.run_bind, hg, Result.andThen_ok]
    exact this
  · rename_i a b hni hns
    split at h
    · rename_i e he
      have heq : (Op.equal t (a.ev ρ) (b.ev ρ)).run P w = .ok (bev ρ e) w := eqSV_sound 20 t _ _ e 10000 (by decide) he
      have hsh : (∃ x y, a = .bool x ∧ b = .bool y) ∨ (∃ x y l c x' y' l' c', a = .sl x y l c ∧ b = .sl x' y' l' c') ∨ (∃ x y x' y', a = .hptr x y ∧ b = .hptr x' y') ∨ (∃ x y, a = .map x ∧ b = .map y) := by
        rcases eqSV_shape he with ⟨_, _, _, _, rfl, rfl⟩ | ⟨_, _, rfl, rfl⟩ | h | h | h | h
        · exact (hni _ _ _ _ rfl rfl).elim
        · exact (hns _ _ rfl rfl).elim
        · exact Or.inl h
        · exact Or.inr (Or.inl h)
        · exact Or.inr (Or.inr (Or.inl h))
        · exact Or.inr (Or.inr (Or.inr h))
      rcases hsh with ⟨x, y, rfl, rfl⟩ | ⟨x, y, l, c, x', y', l', c', rfl, rfl⟩ | ⟨x, y, x', y', rfl, rfl⟩ | ⟨x, y, rfl, rfl⟩
      all_goals
        split at h
        · cases h
          simp only [TV.ev, SV.ev] at heq ⊢
          simp only [CV.ev] at heq ⊢
          simp only [Sem.run_bind, eqGuard, binOp, heq, Sem.run_pure, Result.andThen_ok]
          simp [heq]
        · cases h
          simp only [TV.ev, SV.ev] at heq ⊢
          simp only [CV.ev] at heq ⊢
          simp [Sem.run_bind, eqGuard, binOp, heq, bev_mkNot]
        · cases h
    · cases h
  · rename_i a b
    split at h
    · rename_i hgt
      have hg : ∀ op, (eqGuard op t X Y (SV.ev ρ (.agg a)) (SV.ev ρ (.agg b))).run P w = .ok () w := by
        intro op; cases op <;> simp [eqGuard, SV.ev, Sem.run_bind, run_program, hgt]
      split at h
      · rename_i e he
        have heq : (Op.equal t (SV.ev ρ (.agg a)) (SV.ev ρ (.agg b))).run P w = .ok (bev ρ e) w := eqSV_sound 20 t _ _ e 10000 (by decide) he
        split at h
        · cases h
          simp only [SV.ev] at hg heq
          simp only [TV.ev, SV.ev, CV.ev, Sem.run_bind, hg, Result.andThen_ok, binOp, heq, Sem.run_pure]
        · cases h
          simp only [SV.ev] at hg heq
          simp only [TV.ev, SV.ev, CV.ev, Sem.run_bind, hg, Result.andThen_ok, binOp, heq, Sem.run_pure, bev_mkNot]
        · cases h
      · cases h
    · cases h
  · cases h
end
end Go.Sx

namespace Go.Sx
open Go

section
variable {P : Program} {S : Nat → Prop} {w0 : World} {ρ : Env} {st : St} {mem : Mem} {a : Act} {w : World} {n : E} {v : TV}

theorem MRel.nnX1 (h : MRel S w0 ρ mem w) {x : E} (hx : bev ρ (nnX1 mem x) = true) : -1 ≤ iev ρ x := by
  unfold Sx.nnX1 at hx
  split at hx
  · split at hx
    · rename_i a ha
      have := fBlk_pos h ha
      rw [iev_var]; omega
    · rw [bev_le, iev_lit, decide_eq_true_eq] at hx; exact hx
  · rw [bev_mkLe, iev_lit, decide_eq_true_eq] at hx; exact hx

theorem sliceBound_run {k : IntKind} {i : Int} {y : Nat} {code : BoundsCode} (h0 : 0 ≤ i) (h1 : i ≤ y) : (Instr.sliceBound (.int k i) y code).run P w = .ok i.toNat w := by
  unfold Instr.sliceBound
  simp only [asIntOf, Sem.run_bind, Sem.run_pure, Result.andThen_ok, h0, h1, and_self, if_true]

theorem boundE_ev {d : E} {x : Option TV} {e : E} (h : boundE d x = some e) : (x = none ∧ e = d) ∨ ∃ k, x.map (TV.ev ρ) = some (.int k (iev ρ e)) := by
  unfold boundE at h
  split at h
  · cases h; exact Or.inl ⟨rfl, rfl⟩
  · cases h; exact Or.inr ⟨_, rfl⟩
  · cases h

theorem sliceBounds_run {isSlice : Bool} {len cap : Nat} {lo hi : Option TV} {dl dh l h : E} (hl : boundE dl lo = some l) (hh : boundE dh hi = some h) (h0 : iev ρ dl = 0) (h1 : iev ρ dh = len)
    (a0 : 0 ≤ iev ρ l) (a1 : iev ρ l ≤ iev ρ h) (a2 : iev ρ h ≤ cap) :
    (Instr.sliceBounds isSlice len cap (lo.map (TV.ev ρ)) (hi.map (TV.ev ρ)) none).run P w = .ok ((iev ρ l).toNat, (iev ρ h).toNat, cap) w := by
  unfold Instr.sliceBounds
  simp only [Sem.run_bind, Sem.run_pure, Result.andThen_ok]
  rcases boundE_ev (ρ := ρ) hh with ⟨rfl, rfl⟩ | ⟨k, hk⟩
  · simp only [Option.map_none, Sem.run_pure, Result.andThen_ok]
    rw [h1]
    rcases boundE_ev (ρ := ρ) hl with ⟨rfl, rfl⟩ | ⟨k', hk'⟩
    · simp only [Option.map_none, Sem.run_pure, Result.andThen_ok, h0, Int.toNat_natCast]
      rfl
    · simp only [hk', Sem.run_bind, Sem.run_pure, Result.andThen_ok]
      rw [sliceBound_run a0 (by omega)]
      simp
  · simp only [hk, Sem.run_bind]
    rw [sliceBound_run (by omega) a2]
    simp only [Result.andThen_ok]
    rcases boundE_ev (ρ := ρ) hl with ⟨rfl, rfl⟩ | ⟨k', hk'⟩
    · simp only [Option.map_none, Sem.run_pure, Result.andThen_ok, h0]
      rfl
    · simp only [hk', Sem.run_bind]
      rw [sliceBound_run a0 (by omega)]
      simp

theorem shiftE_ev {m l y : E} {k : Nat} (hl : 0 ≤ iev ρ l) : iev ρ (shiftE m l y k) = if iev ρ m = iev ρ l then iev ρ y else iev ρ y + (((iev ρ l).toNat * k : Nat) : Int) := by
  unfold shiftE
  rw [iev_mkIte, bev_mkEq, iev_mkAdd, iev_mkMul, iev_lit, mul_toNat hl]
  by_cases h : iev ρ m = iev ρ l <;> simp [h]

theorem slP_addr {x y : Int} (hx : -1 ≤ x) (hy : 0 ≤ y) (k : Nat) : (slP x y).map (·.add k) = slP x (y + k) := by
  by_cases h : 0 ≤ x
  · rw [slP_pos h, slP_add h hy, Option.map_some, addr_add]
  · have : x = -1 := by omega
    subst this; rfl

theorem sliceE_sound (hm : MRel S w0 ρ mem w) {t : TypeId} {x : TV} {lo hi mx : Option TV} (h : sliceE P mem t x lo hi mx = some (n, v)) (hn : bev ρ n = true) :
    (Instr.sliceAt t (x.ev ρ) (lo.map (TV.ev ρ)) (hi.map (TV.ev ρ)) (mx.map (TV.ev ρ))).run P w = .ok (v.ev ρ) w := by
  unfold sliceE at h
  split at h
  · cases h
  · split at h
    · rename_i s hu
      split at h
      · rename_i l hh hl hh'
        cases h
        rw [bev_mkAnd, Bool.and_eq_true, bev_mkAnd, Bool.and_eq_true, bev_mkLe, bev_mkLe, bev_mkLe, iev_lit, decide_eq_true_eq, decide_eq_true_eq, decide_eq_true_eq, iev_mkLen] at hn
        obtain ⟨a0, a1, a2⟩ := hn
        have hb := sliceBounds_run (P := P) (w := w) (isSlice := false) (len := (sev ρ s).size) (cap := (sev ρ s).size) hl hh' (iev_lit _ _) (iev_mkLen _ _) a0 a1 a2
        unfold Instr.sliceAt
        simp only [Sem.run_bind, run_underlying hu, Result.andThen_ok]
        unfold Instr.slice
        simp only [Sem.run_bind, run_underlying hu, Result.andThen_ok, TV.ev, SV.ev, CV.ev, Option.map_none, Option.isSome_none, Bool.false_eq_true, if_false, Sem.run_pure, hb, sev_sext]
      · cases h
    · rename_i el x y len cap hu
      split at h
      · rename_i l hh k hl hh' hs
        cases h
        rw [bev_mkAnd, Bool.and_eq_true, bev_mkAnd, Bool.and_eq_true, bev_mkAnd, Bool.and_eq_true, bev_mkAnd, Bool.and_eq_true, bev_mkLe, bev_mkLe, bev_mkLe, bev_mkLe, iev_lit, decide_eq_true_eq, decide_eq_true_eq, decide_eq_true_eq, decide_eq_true_eq] at hn
        obtain ⟨hx, hy, a0, a1, a2⟩ := hn
        have hx := hm.nnX1 hx
        by_cases hlen : 0 ≤ iev ρ len
        · have hb := sliceBounds_run (P := P) (w := w) (isSlice := true) (len := (iev ρ len).toNat) (cap := (iev ρ cap).toNat) hl hh' (iev_lit _ _) (by rw [Int.toNat_of_nonneg hlen]) a0 a1 (by omega)
          unfold Instr.sliceAt
          simp only [Sem.run_bind, run_underlying hu, Result.andThen_ok]
          unfold Instr.slice
          simp only [Sem.run_bind, run_underlying hu, Result.andThen_ok, TV.ev, SV.ev, CV.ev, Option.map_none, hb, sizeT_run hs, Sem.run_pure, shiftE_ev a0, iev_mkSub]
          congr 2
          · by_cases hc : iev ρ cap = iev ρ l
            · rw [if_pos (by rw [hc]), if_pos hc]
            · rw [if_neg (by omega), if_neg hc, slP_addr hx hy]
          · omega
          · omega
        · -- a length below 0 is none that comes; the bounds tell it only if high is given
          rcases boundE_ev (ρ := ρ) hh' with ⟨rfl, rfl⟩ | ⟨kk, hk⟩
          · omega
          · unfold Instr.sliceAt
            simp only [Sem.run_bind, run_underlying hu, Result.andThen_ok]
            unfold Instr.slice
            simp only [Sem.run_bind, run_underlying hu, Result.andThen_ok, TV.ev, SV.ev, CV.ev, Option.map_none]
            have hb : (Instr.sliceBounds true (iev ρ len).toNat (iev ρ cap).toNat (lo.map (TV.ev ρ)) (hi.map (TV.ev ρ)) none).run P w = .ok ((iev ρ l).toNat, (iev ρ hh).toNat, (iev ρ cap).toNat) w := by
              unfold Instr.sliceBounds
              simp only [Sem.run_bind, Sem.run_pure, Result.andThen_ok, hk]
              rw [sliceBound_run (by omega) (by omega)]
              simp only [Result.andThen_ok]
              rcases boundE_ev (ρ := ρ) hl with ⟨rfl, rfl⟩ | ⟨k', hk'⟩
              · simp only [Option.map_none, Sem.run_pure, Result.andThen_ok, iev_lit]
                rfl
              · simp only [hk', Sem.run_bind]
                rw [sliceBound_run a0 (by omega)]
                simp
            simp only [hb, sizeT_run hs, Sem.run_pure, shiftE_ev a0, iev_mkSub, Result.andThen_ok]
            congr 2
            · by_cases hc : iev ρ cap = iev ρ l
              · rw [if_pos (by rw [hc]), if_pos hc]
              · rw [if_neg (by omega), if_neg hc, slP_addr hx hy]
            · omega
            · omega
      · cases h
    · rename_i q el x y hu
      split at h
      · rename_i l hh k hl hh' hs
        cases h
        rw [bev_mkAnd, Bool.and_eq_true, bev_mkAnd, Bool.and_eq_true, bev_mkAnd, Bool.and_eq_true, bev_mkAnd, Bool.and_eq_true, bev_mkLe, bev_mkLe, bev_mkLe, bev_mkLe, iev_lit, iev_lit, decide_eq_true_eq, decide_eq_true_eq, decide_eq_true_eq, decide_eq_true_eq] at hn
        obtain ⟨hx, hy, a0, a1, a2⟩ := hn
        have hx := hm.nnX hx
        have hb := sliceBounds_run (P := P) (w := w) (isSlice := false) (len := q) (cap := q) hl hh' (iev_lit _ _) (iev_lit _ _) a0 a1 a2
        have es : iev ρ (shiftE (.lit q) l y k) = if (q : Int) = iev ρ l then iev ρ y else iev ρ y + (((iev ρ l).toNat * k : Nat) : Int) := shiftE_ev a0
        unfold Instr.sliceAt
        simp only [Sem.run_bind, run_underlying hu, Result.andThen_ok, TV.ev, SV.ev, CV.ev, slP_pos hx, Instr.sureAddr, Sem.run_pure, Option.map_none, hb, sizeT_run hs, es, iev_mkSub, iev_lit]
        congr 2
        · by_cases hc : (q : Int) = iev ρ l
          · rw [if_pos (by omega), if_pos hc]
          · rw [if_neg (by omega), if_neg hc, addr_add]; congr 2; omega
        · omega
        · omega
      · cases h
    · cases h

theorem optOp_ev {o : Option Operand} {x : Option TV} (hr : Rel S w0 ρ st a w) (h : (match o with | none => some none | some o => (opnd st o).map some) = some x) : o.map a.eval = x.map (TV.ev ρ) := by
  cases o with
  | none => simp only [Option.some.injEq] at h; subst h; rfl
  | some o =>
    simp only [Option.map_eq_some_iff] at h
    obtain ⟨y, hy, rfl⟩ := h
    simp [opnd_sound hr hy]

theorem nilCmp_sound (hr : Rel S w0 ρ st a w) {op : BinOp} {t : TypeId} {x y : Operand} (h : nilCmp P st op t x y = some (n, v)) (hn : bev ρ n = true) :
    Sem.run P (do eqGuard op t x y (a.eval x) (a.eval y); binOp op t (a.eval x) (a.eval y)) w = .ok (v.ev ρ) w := by
  unfold nilCmp at h
  split at h
  · rename_i j hx
    have e1 := opnd_sound hr hx
    simp only [TV.ev, SV.ev, CV.ev] at e1
    have e2 : a.eval (.const .nilIface) = .nilIface := rfl
    split at h
    · rename_i ms ht
      have heq : (Op.equal t (ρ.v j) .nilIface).run P w = .ok (decide (vcode (ρ.v j) = 0)) w := by
        have hd : ∀ v : Value, v = .nilIface ∨ (∃ t x, v = .iface t x) → (Op.equal t v .nilIface).run P w = .ok (decide (vcode v = 0)) w := by
          rintro v (rfl | ⟨t', x', rfl⟩)
          · show (Op.equalIn (9999 + 1) t .nilIface .nilIface).run P w = _
            rw [Op.equalIn]
            simp only [Sem.run_bind, run_underlying ht, Result.andThen_ok, Sem.run_pure, vcode]
            rfl
          · show (Op.equalIn (9999 + 1) t (.iface t' x') .nilIface).run P w = _
            rw [Op.equalIn]
            simp only [Sem.run_bind, run_underlying ht, Result.andThen_ok, Sem.run_pure, vcode]
            rfl
        refine hd _ (vcode_le ?_)
        split at h
        · cases h
          rw [bev_le, decide_eq_true_eq] at hn
          exact hn
        · cases h
          rw [bev_le, decide_eq_true_eq] at hn
          exact hn
        · cases h
      have hv : ρ.v j = .nilIface ∨ (∃ t x, ρ.v j = .iface t x) := by
        refine vcode_le ?_
        split at h
        · cases h
          rw [bev_le, decide_eq_true_eq] at hn
          exact hn
        · cases h
          rw [bev_le, decide_eq_true_eq] at hn
          exact hn
        · cases h
      have hg : ∀ op, (eqGuard op t x (.const .nilIface) (ρ.v j) .nilIface).run P w = .ok () w := by
        intro op
        rcases hv with h | ⟨t', x', h⟩ <;> rw [h] <;> cases op <;> simp [eqGuard]
      have hb : (binOp .eql t (ρ.v j) .nilIface).run P w = .ok (.bool (decide (vcode (ρ.v j) = 0))) w ∧ (binOp .neq t (ρ.v j) .nilIface).run P w = .ok (.bool (!decide (vcode (ρ.v j) = 0))) w := by
        rcases hv with h | ⟨t', x', h⟩ <;> rw [h] at heq ⊢ <;> constructor <;> simp only [binOp, Sem.run_bind, heq, Result.andThen_ok, Sem.run_pure]
      split at h
      · cases h
        simp only [e1, e2, Sem.run_bind, hg, Result.andThen_ok, hb.1]
        rfl
      · cases h
        simp only [e1, e2, Sem.run_bind, hg, Result.andThen_ok, hb.2]
        rfl
      · cases h
    · cases h
  · cases h
theorem quiet_sound (hr : Rel S w0 ρ st a w) {o : Oper} (h : quiet P st o.op = some (n, v)) (hn : bev ρ n = true) :
    (execOp a.eval o).run P w = .ok (.value (v.ev ρ)) w := by
  obtain ⟨dst, op, ty, pos, af, gd⟩ := o
  simp only at h
  unfold quiet at h
  split at h
  · rename_i x
    simp only [Option.map_eq_some_iff, Prod.mk.injEq] at h
    obtain ⟨y, hy, _, rfl⟩ := h
    simp only [execOp, Sem.run_pure, opnd_sound hr hy]
  · rename_i x
    simp only [Option.map_eq_some_iff, Prod.mk.injEq] at h
    obtain ⟨y, hy, _, rfl⟩ := h
    simp only [execOp, Sem.run_pure, opnd_sound hr hy]
  · rename_i c x y
    split at h
    · rename_i e hc
      have e1 := opnd_sound hr hc
      simp only [TV.ev, SV.ev, CV.ev] at e1
      split at h
      · rename_i hk
        simp only [Option.map_eq_some_iff, Prod.mk.injEq] at h
        obtain ⟨z, hz, _, rfl⟩ := h
        simp only [execOp, Sem.run_bind, e1, known_sound hr.path hk, asBool, Sem.run_pure, Result.andThen_ok, if_true, opnd_sound hr hz]
      · rename_i hk
        simp only [Option.map_eq_some_iff, Prod.mk.injEq] at h
        obtain ⟨z, hz, _, rfl⟩ := h
        simp only [execOp, Sem.run_bind, e1, known_sound hr.path hk, asBool, Sem.run_pure, Result.andThen_ok, if_false, Bool.false_eq_true, opnd_sound hr hz]
      · split at h
        · rename_i va vb ha hb
          simp only [Option.map_eq_some_iff, Prod.mk.injEq] at h
          obtain ⟨u, hu, _, rfl⟩ := h
          have em := mergeSV_ev (ρ := ρ) hu
          simp only [execOp, Sem.run_bind, e1, asBool, Sem.run_pure, Result.andThen_ok, TV.ev, em, opnd_sound hr ha, opnd_sound hr hb]
        · cases h
    · cases h
  · rename_i x
    split at h
    · rename_i p q hx
      cases h
      have hp := hr.toMRel.nnX hn
      have e1 := opnd_sound hr hx
      simp only [TV.ev, SV.ev, CV.ev] at e1
      simp only [execOp, e1, TV.ev, SV.ev, CV.ev, slP_pos hp, Sem.run_pure]
    · cases h
  · rename_i op t x y _
    split at h
    · rename_i r hnc
      cases h
      have := nilCmp_sound hr hnc hn
      unfold execOp
      simp only [Sem.run_bind] at this ⊢
      rw [this]
      simp only [Result.andThen_ok, Sem.run_pure]
    split at h
    · rename_i v1 v2 hx hy
      have e1 := opnd_sound hr hx
      have e2 := opnd_sound hr hy
      have := binE_sound (w := w) (X := x) (Y := y) h hn
      rw [← e1, ← e2] at this
      unfold execOp
      simp only [Sem.run_bind] at this ⊢
      rw [this]
      simp only [Result.andThen_ok, Sem.run_pure]
    · cases h
  · rename_i op t x
    split at h
    · rename_i v1 hx
      simp only [execOp, Sem.run_bind, opnd_sound hr hx, unE_sound (w := w) (P := P) (ρ := ρ) h, Result.andThen_ok, Sem.run_pure]
    · cases h
  · rename_i s d x
    split at h
    · rename_i v1 hx
      simp only [execOp, Sem.run_bind, opnd_sound hr hx, convE_sound hr.toMRel h hn, Result.andThen_ok, Sem.run_pure]
    · cases h
  · rename_i s x f
    split at h
    · rename_i v1 hx
      simp only [execOp, Sem.run_bind, opnd_sound hr hx, fieldAddrE_sound hr.toMRel h hn, Result.andThen_ok, Sem.run_pure]
    · cases h
  · rename_i s x f
    split at h
    · rename_i v1 hx
      simp only [execOp, Sem.run_bind, opnd_sound hr hx, fieldE_sound (w := w) (ρ := ρ) h, Result.andThen_ok, Sem.run_pure]
    · cases h
  · rename_i t x y
    split at h
    · rename_i v1 v2 hx hy
      simp only [execOp, Sem.run_bind, opnd_sound hr hx, opnd_sound hr hy, indexAddrE_sound hr.toMRel h hn, Result.andThen_ok, Sem.run_pure]
    · cases h
  · rename_i t x y
    split at h
    · rename_i v1 v2 hx hy
      simp only [execOp, Sem.run_bind, opnd_sound hr hx, opnd_sound hr hy, indexE_sound (w := w) h hn, Result.andThen_ok, Sem.run_pure]
    · cases h
  · rename_i t x
    split at h
    · rename_i c hx
      simp only [Option.map_eq_some_iff, Prod.mk.injEq] at h
      obtain ⟨⟨nn, u⟩, hu, rfl, rfl⟩ := h
      have e1 := opnd_sound hr hx
      obtain ⟨p, hp, hl⟩ := loadE_sound hr.toMRel hu hn
      simp only [TV.ev, SV.ev, hp] at e1
      simp only [execOp, Sem.run_bind, e1, Instr.loadAt, Instr.sureAddr, Sem.run_pure, Result.andThen_ok, hl, TV.ev]
    · cases h
  · rename_i x i
    split at h
    · rename_i v1 hx
      simp only [execOp, Sem.run_bind, opnd_sound hr hx, extractE_sound (w := w) (P := P) (ρ := ρ) h, Result.andThen_ok, Sem.run_pure]
    · cases h
  · rename_i t x
    split at h
    · rename_i q el x' y l c hu hx
      cases h
      rw [bev_mkLe, iev_lit, decide_eq_true_eq] at hn
      have e1 := opnd_sound hr hx
      simp only [TV.ev, SV.ev, CV.ev] at e1
      have : ¬ (iev ρ l).toNat < q := by omega
      simp only [execOp, Sem.run_bind, e1, Instr.arrayAt, run_underlying hu, Result.andThen_ok, if_neg this, Sem.run_pure, TV.ev, SV.ev, CV.ev]
    · cases h
  · rename_i t x lo hi mx
    split at h
    · rename_i v1 hx
      split at h
      · rename_i l hh m h1 h2 h3
        have := sliceE_sound hr.toMRel h hn
        rw [← optOp_ev hr h1, ← optOp_ev hr h2, ← optOp_ev hr h3, ← opnd_sound hr hx] at this
        simp only [execOp, Sem.run_bind, this, Result.andThen_ok, Sem.run_pure]
      · cases h
    · cases h
  · rename_i f first captured
    split at h
    · rename_i hc
      cases h
      obtain ⟨rfl, rfl⟩ := hc
      simp [execOp, Sem.run_bind, Instr.makeFunc, TV.ev, SV.ev, CV.ev]
    · split at h
      · rename_i c hcap
        split at h
        · rename_i hf
          split at h
          · rename_i x y hx
            split at h
            · rename_i hy
              cases h
              subst hy; subst hf
              have e1 := opnd_sound hr hx
              simp only [TV.ev, SV.ev, CV.ev, iev_lit] at e1
              have ec : captured = #[c] := by
                obtain ⟨l⟩ := captured; simp only at hcap; subst hcap; rfl
              subst ec
              simp [execOp, Sem.run_bind, Instr.makeFunc, TV.ev, SV.ev, CV.ev, e1]
            · cases h
          · cases h
        · cases h
      · cases h
  · rename_i b args ats
    split at h
    · rename_i vs hx
      have e1 := opnds_sound hr _ _ hx
      have e2 : args.map a.eval = (vs.map (TV.ev ρ)).toArray := by
        rw [← e1]; obtain ⟨l⟩ := args; exact List.map_toArray
      rw [BigFrame.execOp_builtin, e2]
      exact builtinE_sound hr.toMRel h hn
    · cases h
  · rename_i t parts
    split at h
    · rename_i vs hx
      have e1 := opnds_sound hr _ _ hx
      have e2 : (parts.map fun p => (p.1, a.eval p.2)) = ((parts.toList.map (·.1)).zip (vs.map (TV.ev ρ))).toArray := by
        rw [← e1, List.map_map, ← map_zip2 parts.toList]
        obtain ⟨l⟩ := parts; exact List.map_toArray
      have := buildE_sound (w := w) (ρ := ρ) h
      rw [← e2] at this
      simp only [execOp, Sem.run_bind, this, Result.andThen_ok, Sem.run_pure]
    · cases h
  · cases h
end
end Go.Sx

namespace Go.Sx
open Go

/-! ### Environments with new values -/
def Env.setI (ρ : Env) (n : Nat) (x : Int) : Env := { ρ with i := fun k => if k = n then x else ρ.i k }
def Env.setH (ρ : Env) (n : Nat) (x : Hl) : Env := { ρ with h := fun k => if k = n then x else ρ.h k }
def Env.setV (ρ : Env) (n : Nat) (x : Value) : Env := { ρ with v := fun k => if k = n then x else ρ.v k }
def Env.setB (ρ : Env) (n : Nat) (x : Bool) : Env := { ρ with b := fun k => if k = n then x else ρ.b k }
def Env.setS (ρ : Env) (n : Nat) (x : ByteArray) : Env := { ρ with s := fun k => if k = n then x else ρ.s k }
section
variable (ρ : Env) (n m : Nat)
theorem setI_i (x : Int) : (ρ.setI n x).i n = x := by simp [Env.setI]
theorem setI_ne (x : Int) (h : m ≠ n) : (ρ.setI n x).i m = ρ.i m := by simp [Env.setI, h]
theorem setI_h (x : Int) : (ρ.setI n x).h = ρ.h := rfl
theorem setH_h (x : Hl) : (ρ.setH n x).h n = x := by simp [Env.setH]
theorem setH_ne (x : Hl) (h : m ≠ n) : (ρ.setH n x).h m = ρ.h m := by simp [Env.setH, h]
theorem setH_i (x : Hl) : (ρ.setH n x).i = ρ.i := rfl
theorem agree_setI {k : Nat} (x : Int) (h : n ≤ k) : Agree n ρ (ρ.setI k x) := ⟨fun j hj => by simp [Env.setI]; omega, fun _ _ => rfl, fun _ _ => rfl, fun _ _ => rfl, fun _ _ => rfl⟩
theorem agree_setH {k : Nat} (x : Hl) (h : n ≤ k) : Agree n ρ (ρ.setH k x) := ⟨fun _ _ => rfl, fun _ _ => rfl, fun _ _ => rfl, fun _ _ => rfl, fun j hj => by simp [Env.setH]; omega⟩
theorem agree_setV {k : Nat} (x : Value) (h : n ≤ k) : Agree n ρ (ρ.setV k x) := ⟨fun _ _ => rfl, fun _ _ => rfl, fun _ _ => rfl, fun j hj => by simp [Env.setV]; omega, fun _ _ => rfl⟩
theorem agree_setB {k : Nat} (x : Bool) (h : n ≤ k) : Agree n ρ (ρ.setB k x) := ⟨fun _ _ => rfl, fun j hj => by simp [Env.setB]; omega, fun _ _ => rfl, fun _ _ => rfl, fun _ _ => rfl⟩
theorem agree_setS {k : Nat} (x : ByteArray) (h : n ≤ k) : Agree n ρ (ρ.setS k x) := ⟨fun _ _ => rfl, fun _ _ => rfl, fun j hj => by simp [Env.setS]; omega, fun _ _ => rfl, fun _ _ => rfl⟩
end

/-! ### Pieces of memory with cells turned -/
def Hl.put (h : Hl) (x y : Nat) (vs : List Value) : Hl := fun b => if b = x then
    match h x with
    | some (.cells c T fr) => some (.cells (splice c.toList y vs).toArray T fr)
    | o => o
  else h b
/-- There are n cells from y on, and none is frozen. -/
def Hl.wr (h : Hl) (x y n : Nat) : Bool :=
  match h x with
  | some (.cells c _ fr) => decide (y + n ≤ c.size) && (decide (fr.2 ≤ y) || decide (y + n ≤ fr.1))
  | _ => false
theorem Hl.put_mem {h : Hl} {x y b : Nat} {vs : List Value} : (h.put x y vs).mem b ↔ h.mem b := by
  unfold Hl.mem Hl.put
  split
  · rename_i e; subst e; split
    · rename_i c T fr hb; simp [hb]
    · rfl
  · rfl

/-! ### Pieces put together -/
def Hl.un (a b : Hl) : Hl := fun k => (a k).or (b k)
def hls (l : List Hl) : Hl := l.foldr Hl.un Hl.none
def Hl.le (a b : Hl) : Prop := ∀ k o, a k = some o → b k = some o
theorem Hl.un_mem {a b : Hl} {k : Nat} : (a.un b).mem k ↔ a.mem k ∨ b.mem k := by
  unfold Hl.mem Hl.un
  cases a k <;> simp
theorem Hl.un_sub {a b : Hl} {w : World} (h1 : a.sub w) (h2 : b.sub w) : (a.un b).sub w := by
  intro k o h
  unfold Hl.un at h
  cases ha : a k with
  | some x => rw [ha] at h; cases h; exact h1 _ _ ha
  | none => rw [ha] at h; exact h2 _ _ h

/-- A slice that has a whole row of its own. -/
def OwnsH (h : Hl) (e : TypeId) (size : Nat) (v : Value) (n : Nat) (xs : List Value) : Prop :=
  xs.length = n * size ∧
  ((v = .slice none 0 0 ∧ n = 0) ∨
   ∃ g cap cur, v = .slice (some ⟨g, 0, none⟩) n cap ∧ h g = some (.cells cur e (0, 0)) ∧ n ≤ cap ∧ cap ≤ maxLen ∧ cur.size = cap * size ∧ cur.toList.take (n * size) = xs)

/-! ### What is appended, or copied -/
inductive Src | cvs (l : List CV) (m : Nat) | seg (h : Nat) (x y l : E)
def segVals (h : Hl) (x y n : Nat) : List Value := (List.range n).map fun j => (h.cell x (y + j)).getD (.tuple #[])
def Src.len (ρ : Env) : Src → Nat
  | .cvs _ m => m
  | .seg _ _ _ l => (iev ρ l).toNat
def Src.vals (ρ : Env) (size : Nat) : Src → List Value
  | .cvs l _ => l.map (CV.ev ρ)
  | .seg h x y l => segVals (ρ.h h) (iev ρ x).toNat (iev ρ y).toNat ((iev ρ l).toNat * size)
/-- The cells are there, each the value of one cell; nothing is there of none. -/
def Src.ok (ρ : Env) (size : Nat) : Src → Prop
  | .cvs l m => True
  | .seg h x y l => (0 ≤ iev ρ x ∧ 0 ≤ iev ρ y ∧ 0 ≤ iev ρ l ∧ ∀ j, j < (iev ρ l).toNat * size → ∃ v, (ρ.h h).cell (iev ρ x).toNat ((iev ρ y).toNat + j) = some v ∧ v.oneCell' = true) ∨ iev ρ l = 0

/-! ### Maps -/
def mapFind (kd : Kd) (key : Value) (es : Array MapEntry) : Option (Option (Nat × Value)) :=
  match kd with
  | .int k => Instr.findNow (.int k) key es.toList 0
  | .str => Instr.findNow .string key es.toList 0
  | _ => none
def mapPut (kd : Kd) (key val : Value) (es : Array MapEntry) (clock : Nat) : Obj :=
  match mapFind kd key es with
  | some (some (i, _)) => .map (es.modify i fun e => { e with key, val }) clock
  | _ => .map (es.push { key, val, born := clock }) (clock + 1)
def isAgg : Value → Bool
  | .agg _ => true
  | _ => false
def Hl.setObj (h : Hl) (x : Nat) (o : Obj) : Hl := fun b => if b = x then some o else h b

/-! ### Contracts -/
inductive Ck | int (k : IntKind) | bool | str | any | ptr | sl | map
inductive Cp | one (k : Ck) | agg (ks : List Ck)
def Ck.len : Ck → Nat
  | .ptr => 2 | .sl => 4 | _ => 1
def Ck.cv (n : Nat) : Ck → CV
  | .int k => .int k (.var n)
  | .bool => .bool (.bvar n)
  | .str => .str (.svar n)
  | .any => .vr n
  | .ptr => .hptr (.var n) (.var (n + 1))
  | .sl => .sl (.var n) (.var (n + 1)) (.var (n + 2)) (.var (n + 3))
  | .map => .map (.var n)
def Ck.root (n : Nat) : Ck → List E
  | .ptr | .sl | .map => [.var n]
  | _ => []
def ckCVs : Nat → List Ck → List CV
  | _, [] => []
  | n, k :: l => k.cv n :: ckCVs (n + k.len) l
def ckRoots : Nat → List Ck → List E
  | _, [] => []
  | n, k :: l => k.root n ++ ckRoots (n + k.len) l
def ckLen (l : List Ck) : Nat := (l.map Ck.len).sum
def Cp.sv (n : Nat) : Cp → SV
  | .one k => .one (k.cv n)
  | .agg ks => .agg (ckCVs n ks)
def Cp.len : Cp → Nat
  | .one k => k.len
  | .agg ks => ckLen ks
def Cp.roots (n : Nat) : Cp → List E
  | .one k => k.root n
  | .agg ks => ckRoots n ks
def cpSVs : Nat → List Cp → List SV
  | _, [] => []
  | n, c :: l => c.sv n :: cpSVs (n + c.len) l
def cpRoots : Nat → List Cp → List E
  | _, [] => []
  | n, c :: l => c.roots n ++ cpRoots (n + c.len) l
def cpLen (l : List Cp) : Nat := (l.map Cp.len).sum
def cpTV (n : Nat) (l : List Cp) : TV :=
  match l with
  | [c] => .sv (c.sv n)
  | l => .tup (cpSVs n l)

def ckOf : Value → Ck
  | .int k _ => .int k
  | .bool _ => .bool
  | .string _ => .str
  | .slice _ _ _ => .sl
  | .pointer _ => .ptr
  | .map _ => .map
  | _ => .any
/-- The value of a map's element, of new variables. -/
def mshape (n : Nat) (ks : List Ck) (agg : Bool) : SV := if agg then .agg (ckCVs n ks) else match ks with
  | [k] => .one (k.cv n)
  | _ => .agg (ckCVs n ks)
def hasShape (ks : List Ck) (agg : Bool) (v : Value) : Prop := if agg then ∃ cs, v = .agg cs ∧ cs.toList.map ckOf = ks else ∃ k, ks = [k] ∧ ckOf v = k

/-- A result's variables are as they are told: no spots, no numbers below nought. -/
def ckNorm (n : Nat) (ρ : Env) : Ck → Prop
  | .ptr => -1 ≤ ρ.i n ∧ 0 ≤ ρ.i (n + 1)
  | .sl => -1 ≤ ρ.i n ∧ 0 ≤ ρ.i (n + 1) ∧ 0 ≤ ρ.i (n + 2) ∧ 0 ≤ ρ.i (n + 3)
  | .map => -1 ≤ ρ.i n
  | _ => True
def ckNorms : Nat → List Ck → Env → Prop
  | _, [], _ => True
  | n, k :: l, ρ => ckNorm n ρ k ∧ ckNorms (n + k.len) l ρ
def cpNorm (n : Nat) (ρ : Env) : Cp → Prop
  | .one k => ckNorm n ρ k
  | .agg ks => ckNorms n ks ρ
def cpNorms : Nat → List Cp → Env → Prop
  | _, [], _ => True
  | n, c :: l, ρ => cpNorm n ρ c ∧ cpNorms (n + c.len) l ρ

/-- Which piece an argument means: an argument's own, or one that is linked to it. -/
inductive Sel | arg (i : Nat) | link (i j : Nat)
structure Spec where
  fn : FuncId
  own : List Sel
  rd : List Nat
  res : List Cp
  links : List Nat := []
  pre : List Value → List Hl → List Hl → Prop
  post : List Value → List Hl → List Hl → Value → List Hl → Hl → Prop

/-- The world turned, on owned pieces, or grew. -/
structure Turned (w w' : World) (Hs Hs' : List Hl) (F : Hl) : Prop where
  os : w'.os = w.os
  tape : w'.tape = w.tape
  output : w'.output = w.output
  size : w.heap.size ≤ w'.heap.size
  block : ∀ b, b < w.heap.size → (∀ H ∈ Hs, ¬ H.mem b) → w'.heap[b]? = w.heap[b]?
  len : Hs'.length = Hs.length
  sub : ∀ H ∈ Hs', H.sub w'
  fsub : F.sub w'
  dom : ∀ H ∈ Hs', ∀ b, H.mem b → (∃ K ∈ Hs, K.mem b) ∨ w.heap.size ≤ b
  fdom : ∀ b, F.mem b → (∃ K ∈ Hs, K.mem b) ∨ w.heap.size ≤ b
  dis : ∀ (p q : Nat) H K, p ≠ q → Hs'[p]? = some H → Hs'[q]? = some K → H.dis K
  fdis : ∀ H ∈ Hs', H.dis F

def Spec.OK (P : Program) (s : Spec) : Prop := ∀ w (xs : List Value) (Hs Rs : List Hl), Hs.length = s.own.length → Rs.length = s.rd.length →
  (∀ H ∈ Hs, H.sub w) → (∀ R ∈ Rs, R.sub w) → (∀ (p q : Nat) H K, p ≠ q → Hs[p]? = some H → Hs[q]? = some K → H.dis K) → (∀ H ∈ Hs, ∀ R ∈ Rs, H.dis R) → s.pre xs Hs Rs →
  Calls P s.fn xs.toArray w fun e w' => ∃ (ρ : Env) (Hs' : List Hl) (F : Hl), e = .returned ((cpTV 0 s.res).ev ρ) ∧ cpNorms 0 s.res ρ ∧ Turned w w' Hs Hs' F ∧ s.post xs Hs Rs ((cpTV 0 s.res).ev ρ) Hs' F

structure Ctx where
  Γ : List Spec
  inv : Nat → Env → Prop
  mu : Nat → Env → Nat
  post : Env → Mem → TV → Prop

/-! ### What comes with an operation -/
inductive X
  | alloc (n : Nat)
  | put (n h : Nat) (x y : E) (cs : List CV)
  | app (n : Nat) (el : TypeId) (size bytes : Nat) (s : CV) (l : E) (H : Res) (src : Src)
  | grow (n : Nat) (el : TypeId) (size bytes : Nat) (olds : List CV) (l c : Nat) (src : Src)
  | mk (n : Nat) (el : TypeId) (z : List CV) (bytes : Nat) (l : E)
  | call (j n : Nat) (args : List TV) (own rd : List Res)
  | mnew (n : Nat)
  | mget (n h : Nat) (x : E) (kd : Kd) (key : CV) (z : SV) (ks : List Ck) (agg : Bool)
  | mset (n h : Nat) (x : E) (kd : Kd) (key : CV) (v : SV)
  | mclr (n h : Nat) (x : E)
  | cbs (n a : Nat) (cs : List CV) (T : TypeId)
  | mrg (n : Nat) (a b : Res)
def X.n : X → Nat
  | .mnew n | .mget n _ _ _ _ _ _ _ | .mset n _ _ _ _ _ | .mclr n _ _ | .cbs n _ _ _ | .mrg n _ _ => n
  | .alloc n | .put n _ _ _ _ | .app n _ _ _ _ _ _ _ | .grow n _ _ _ _ _ _ _ | .mk n _ _ _ _ | .call _ n _ _ _ => n

def newHs (ρ : Env) (n k : Nat) : List Hl := (List.range k).map fun j => ρ.h (n + j)
/-- What must hold ahead of it. -/
def X.pre (C : Ctx) (ρ : Env) : X → Prop
  | .alloc _ => True
  | .put _ h x y cs => 0 ≤ iev ρ x ∧ 0 ≤ iev ρ y ∧ (ρ.h h).wr (iev ρ x).toNat (iev ρ y).toNat cs.length = true
  | .app _ el size bytes s l H src => (∃ xs, OwnsH (H.hl ρ) el size (s.ev ρ) (iev ρ l).toNat xs) ∧ 0 ≤ iev ρ l ∧ src.ok ρ size ∧ (iev ρ l).toNat + src.len ρ ≤ maxLen ∧ ((iev ρ l).toNat + src.len ρ) * bytes ≤ 140737488355328
  | .grow _ el size bytes olds l c src => src.ok ρ size ∧ c < l + src.len ρ ∧ l + src.len ρ ≤ maxLen ∧ (l + src.len ρ) * bytes ≤ 140737488355328
  | .mk _ el z bytes l => 0 ≤ iev ρ l ∧ (bytes : Int) * iev ρ l ≤ 281474976710656 ∧ iev ρ l ≤ 9223372036854775807
  | .call j _ args own rd => match C.Γ[j]? with
    | some s => s.pre (args.map (TV.ev ρ)) (own.map (Res.hl ρ)) (rd.map (Res.hl ρ))
    | none => False
  | .mnew _ => True
  | .mget _ h x kd key z ks agg => 0 ≤ iev ρ x ∧ ∃ es clock r, ρ.h h (iev ρ x).toNat = some (.map es clock) ∧ mapFind kd (key.ev ρ) es = some r ∧ ∀ i v, r = some (i, v) → hasShape ks agg v
  | .mset _ h x kd key v => 0 ≤ iev ρ x ∧ ∃ es clock r, ρ.h h (iev ρ x).toNat = some (.map es clock) ∧ mapFind kd (key.ev ρ) es = some r
  | .mclr _ h x => 0 ≤ iev ρ x ∧ ∃ es clock, ρ.h h (iev ρ x).toNat = some (.map es clock)
  | .cbs _ _ _ _ => True
  | .mrg _ _ _ => True
/-- What holds behind it. -/
def X.rel (C : Ctx) (ρ ρ' : Env) : X → Prop
  | .alloc n => 0 ≤ ρ'.i n
  | .put n h x y cs => ρ'.h n = (ρ.h h).put (iev ρ x).toNat (iev ρ y).toNat (cs.map (CV.ev ρ))
  | .app n el size bytes s l H src =>
    -1 ≤ ρ'.i n ∧ 0 ≤ ρ'.i (n + 1) ∧
    (∀ xs, OwnsH (H.hl ρ) el size (s.ev ρ) (iev ρ l).toNat xs → OwnsH (ρ'.h n) el size (.slice (slP (ρ'.i n) 0) ((iev ρ l).toNat + src.len ρ) (ρ'.i (n + 1)).toNat) ((iev ρ l).toNat + src.len ρ) (xs ++ src.vals ρ size)) ∧
    (∀ b, (H.hl ρ).mem b → some b ≠ (s.ev ρ).ownBlock → ρ'.h n b = H.hl ρ b) ∧
    (∀ b, (ρ'.h n).mem b → (H.hl ρ).mem b ∨ (b = (ρ'.i n).toNat ∧ 0 ≤ ρ'.i n)) ∧
    (some (ρ'.i n).toNat = (s.ev ρ).ownBlock ∨ ¬ (H.hl ρ).mem (ρ'.i n).toNat ∨ ρ'.i n = -1)
  | .grow n el size bytes olds l c src =>
    0 ≤ ρ'.i n ∧ 0 ≤ ρ'.i (n + 1) ∧
    OwnsH (ρ'.h n) el size (.slice (slP (ρ'.i n) 0) (l + src.len ρ) (ρ'.i (n + 1)).toNat) (l + src.len ρ) (olds.map (CV.ev ρ) ++ src.vals ρ size) ∧
    (∀ b, (ρ'.h n).mem b → b = (ρ'.i n).toNat)
  | .mk n el z bytes l => 0 ≤ ρ'.i n ∧ ρ'.h n = Hl.one (ρ'.i n).toNat (.cells (madeCells (z.map (CV.ev ρ)).toArray ((iev ρ l).toNat * z.length)) el (0, 0))
  | .call j n args own rd => match C.Γ[j]? with
    | some s => ∃ F, s.post (args.map (TV.ev ρ)) (own.map (Res.hl ρ)) (rd.map (Res.hl ρ)) ((cpTV n s.res).ev ρ') (newHs ρ' n own.length) F ∧ (cpRoots 0 s.res ≠ [] → ρ'.h (n + own.length) = F) ∧ cpNorms n s.res ρ'
    | none => False
  | .mnew n => 0 ≤ ρ'.i n ∧ ρ'.h n = Hl.one (ρ'.i n).toNat (.map #[] 0)
  | .mget n h x kd key z ks agg => ∀ es clock r, ρ.h h (iev ρ x).toNat = some (.map es clock) → mapFind kd (key.ev ρ) es = some r →
    (mshape n ks agg).ev ρ' = (match r with | some (_, v) => v | none => z.ev ρ) ∧ ρ'.b (n + ckLen ks) = r.isSome
  | .mset n h x kd key v => ∀ es clock, ρ.h h (iev ρ x).toNat = some (.map es clock) → ρ'.h n = (ρ.h h).setObj (iev ρ x).toNat (mapPut kd (key.ev ρ) (v.ev ρ) es clock)
  | .mclr n h x => ∀ es clock, ρ.h h (iev ρ x).toNat = some (.map es clock) → ρ'.h n = (ρ.h h).setObj (iev ρ x).toNat (.map #[] clock)
  | .cbs n a cs T => ρ'.h n = Hl.one (ρ.i a).toNat (.cells (cs.map (CV.ev ρ)).toArray T (cs.length, cs.length + 1))
  | .mrg n a b => ρ'.h n = (a.hl ρ).un (b.hl ρ) ∧ (a.hl ρ).dis (b.hl ρ)

/-! ### What is owed -/
structure As where
  n : Nat
  k : Nat
  c : CV
inductive Nd
  | tt | e (x : E) | and (a b : Nd) | imp (c : E) (a : Nd) | pre (x : X) | ext (x : X) (a : Nd)
  | inv (j : Nat) (A : List As) (hs : List (Nat × Option Nat)) | back (d j : Nat) (A : List As) (hs : List (Nat × Option Nat)) | havoc (d j n0 : Nat) (a : Nd)
  | post (mem : Mem) (r : TV)

/-- New values for variables: of integers, bools, strings, values; of pieces. -/
def assign (ρ : Env) (A : List As) (hs : List (Nat × Option Nat)) : Env where
  i := fun k => match A.find? fun a => a.n == k && a.k == 0 with
    | some a => valI (some (a.c.ev ρ))
    | none => ρ.i k
  b := fun k => match A.find? fun a => a.n == k && a.k == 1 with
    | some a => valB (some (a.c.ev ρ))
    | none => ρ.b k
  s := fun k => match A.find? fun a => a.n == k && a.k == 2 with
    | some a => valS (some (a.c.ev ρ))
    | none => ρ.s k
  v := fun k => match A.find? fun a => a.n == k && a.k == 3 with
    | some a => a.c.ev ρ
    | none => ρ.v k
  h := fun k => match hs.find? fun p => p.1 == k with
    | some (_, some q) => ρ.h q
    | some (_, none) => Hl.none
    | none => ρ.h k

def Nd.holds (C : Ctx) (ms : Nat → Nat) (ρ : Env) : Nd → Prop
  | .tt => True
  | .e x => bev ρ x = true
  | .and a b => a.holds C ms ρ ∧ b.holds C ms ρ
  | .imp c a => bev ρ c = true → a.holds C ms ρ
  | .pre x => x.pre C ρ
  | .ext x a => ∀ ρ', Agree x.n ρ ρ' → x.rel C ρ ρ' → a.holds C ms ρ'
  | .inv j A hs => C.inv j (assign ρ A hs)
  | .back d j A hs => C.inv j (assign ρ A hs) ∧ C.mu j (assign ρ A hs) < ms d
  | .havoc d j n0 a => ∀ ρ', Agree n0 ρ ρ' → C.inv j ρ' → a.holds C (fun k => if k = d then C.mu j ρ' else ms k) ρ'
  | .post mem r => C.post ρ mem r
def ndE : E → Nd
  | .tt => .tt
  | x => .e x
def ndAnd : Nd → Nd → Nd
  | .tt, b => b
  | a, .tt => a
  | a, b => .and a b
def ndImp : E → Nd → Nd
  | _, .tt => .tt
  | .tt, a => a
  | c, a => .imp c a
section
variable (C : Ctx) (ms : Nat → Nat)
theorem ndE_holds (x : E) (ρ : Env) : (ndE x).holds C ms ρ = (bev ρ x = true) := by
  unfold ndE; split
  · simp [Nd.holds, bev_tt]
  · rfl
theorem ndAnd_holds (a b : Nd) (ρ : Env) : (ndAnd a b).holds C ms ρ = (a.holds C ms ρ ∧ b.holds C ms ρ) := by unfold ndAnd; split <;> simp [Nd.holds]
theorem ndImp_holds (c : E) (a : Nd) (ρ : Env) : (ndImp c a).holds C ms ρ = (bev ρ c = true → a.holds C ms ρ) := by unfold ndImp; split <;> simp [Nd.holds, bev_tt]
end
end Go.Sx

namespace Go.Sx
open Go

section
variable {P : Program} {w : World}

/-! ### Cells stored -/
theorem store_at (g o : Nat) (t : TypeId) (fr : Nat × Nat) : ∀ (vs : List Value) (i : Nat) (cur : Array Value) (w : World), w.heap[g]? = some (.cells cur t fr) → o + i + vs.length ≤ cur.size → (fr.2 ≤ o + i ∨ o + i + vs.length ≤ fr.1) → (∀ v ∈ vs, v.oneCell' = true) →
    (storeCells ⟨g, o, none⟩ vs i).run P w = .ok () (w.setRow g (cur.toList.take (o + i) ++ vs ++ cur.toList.drop (o + i + vs.length)).toArray)
  | [], i, cur, w, hg, _, _, _ => by
    simp only [storeCells, List.append_nil, List.length_nil, Nat.add_zero, List.take_append_drop, Array.toArray_toList]
    rw [setRow_self w g cur t fr hg]
    rfl
  | v :: rest, i, cur, w, hg, hl, hf, h1 => by
    have hi : o + i < cur.size := by simp at hl; omega
    have hadd : (⟨g, o, none⟩ : Addr).add i = ⟨g, o + i, none⟩ := by unfold Addr.add; split <;> simp_all
    have hcell : w.cell? ⟨g, o + i, none⟩ = some cur[o + i] := by simp [World.cell?, hg, hi]
    have hfro : w.frozen? ⟨g, o + i, none⟩ = false := by
      obtain ⟨lo, hi'⟩ := fr
      simp only [World.frozen?, hg, List.length_cons] at hf ⊢
      simp only [Bool.and_eq_false_iff, decide_eq_false_iff_not]
      omega
    have hst : (store ((⟨g, o, none⟩ : Addr).add i) v).run P w = .ok () (w.setRow g (cur.setIfInBounds (o + i) v)) := by
      rw [hadd, run_store P w _ v _ (h1 v (by simp)), hcell]
      simp [hfro, setCell_eq_setRow w g (o + i) cur t fr v hg]
    have ih := store_at g o t fr rest (i + 1) (cur.setIfInBounds (o + i) v) (w.setRow g (cur.setIfInBounds (o + i) v)) (setRow_heap w g cur _ t _ hg) (by simp at hl ⊢; omega) (by simp only [List.length_cons] at hf; omega) (fun x hx => h1 x (by simp [hx]))
    simp only [storeCells, Sem.run_bind, hst, Result.andThen_ok, ih, setRow_setRow]
    congr 3
    have e := list_seg_step cur.toList (o + i) v rest (by simp at hl ⊢; omega)
    simpa [Array.toList_setIfInBounds, Nat.add_assoc] using e

theorem put_sub {h : Hl} (hs : h.sub w) {x y : Nat} {vs : List Value} {c : Array Value} {T : TypeId} {fr : Nat × Nat} (hx : h x = some (.cells c T fr)) : (h.put x y vs).sub (w.setRow x (splice c.toList y vs).toArray) := by
  intro b o hb
  unfold Hl.put at hb
  split at hb
  · rename_i e; subst e
    rw [hx] at hb
    cases hb
    exact setRow_heap w b c _ T fr (hs _ _ hx)
  · rename_i e
    rw [setRow_other w x b _ e]
    exact hs b o hb

theorem wr_cells {h : Hl} {x y n : Nat} (hw : h.wr x y n = true) : ∃ c T fr, h x = some (.cells c T fr) ∧ y + n ≤ c.size ∧ (fr.2 ≤ y ∨ y + n ≤ fr.1) := by
  unfold Hl.wr at hw
  split at hw
  · rename_i c T fr hx
    simp only [Bool.and_eq_true, Bool.or_eq_true, decide_eq_true_eq] at hw
    exact ⟨c, T, fr, hx, hw.1, hw.2⟩
  · cases hw

theorem store_hl {h : Hl} (hs : h.sub w) {t : TypeId} {x y : Nat} {v : Value} {vs : List Value} (hsz : sizeT P t = some vs.length) (hv : v.cells.toList = vs) (h1 : ∀ u ∈ vs, u.oneCell' = true) (hw : h.wr x y vs.length = true) :
    ∃ cs, (storeVar t ⟨x, y, none⟩ v).run P w = .ok () (w.setRow x cs) ∧ (h.put x y vs).sub (w.setRow x cs) := by
  obtain ⟨c, T, fr, hx, hle, hfr⟩ := wr_cells hw
  refine ⟨(splice c.toList y vs).toArray, ?_, put_sub hs hx⟩
  unfold storeVar
  have hsize : v.cells.size = vs.length := by rw [← Array.length_toList, hv]
  simp only [Sem.run_bind, sizeT_run hsz, Result.andThen_ok, hsize, ne_eq, not_true_eq_false, if_false]
  rw [hv]
  have := store_at (P := P) x y T fr vs 0 c w (hs _ _ hx) (by omega) (by omega) h1
  simp only [Nat.add_zero] at this
  rw [this]
  simp [splice]

/-! ### Append -/
theorem owns_row {H : Hl} (hs : H.sub w) {e : TypeId} {size : Nat} {v : Value} {n : Nat} {xs : List Value} (h : OwnsH H e size v n xs) : w.ownsRow 0 e size v n xs := by
  refine ⟨h.1, ?_⟩
  rcases h.2 with h | ⟨g, cap, cur, rfl, hg, r1, r2, r3, r4⟩
  · exact Or.inl h
  · exact Or.inr ⟨g, cap, cur, rfl, Nat.zero_le _, hs _ _ hg, r1, r2, r3, r4⟩

/-- What is appended stands somewhere, or is none. -/
def SrcAt (w : World) (u : Value) (m : Nat) (news : List Value) : Prop :=
  (∃ a c, u = .slice (some a) m c ∧ ∀ j x, news[j]? = some x → w.cell? (a.add j) = some x) ∨ ((∃ c, u = .slice none 0 c) ∧ m = 0 ∧ news = [])

theorem append_none (base : Nat) (t ty e : TypeId) (i : TypeInfo) (size : Nat) (ht : P.underlying t = some (.slice e)) (hi : P.info? e = some i)
    (v : Value) (n : Nat) (xs : List Value) (hown : w.ownsRow base e size v n xs) (c : Nat) :
    (Builtin.append_ #[t, t] ty #[v, .slice none 0 c]).run P w = .ok v w := by
  rcases hown.2 with ⟨rfl, rfl⟩ | ⟨g, cap, cur, rfl, _, _, hnc, _⟩
  · simp [Builtin.append_, run_underlying ht, sizeOf, typeInfo, hi, Builtin.lenOf, Builtin.firstCells]
  · simp [Builtin.append_, run_underlying ht, sizeOf, typeInfo, hi, Builtin.lenOf, Builtin.firstCells, hnc, storeCells]

theorem append_own {H : Hl} (hs : H.sub w) {t ty e : TypeId} {i : TypeInfo} {z : Value} {size bytes : Nat} (ht : P.underlying t = some (.slice e)) (hi : P.info? e = some i) (hz : i.zero = some z)
    (hsize : i.size = size) (hby : i.bytes = bytes) (hzs : z.cells.size = size) (hsz : 0 < size) {v : Value} {n : Nat} {xs : List Value} (ho : OwnsH H e size v n xs)
    {u : Value} {m : Nat} {news : List Value} (hl : news.length = m * size) (hu : SrcAt w u m news) (h1 : ∀ x ∈ news, x.oneCell' = true) (h63 : n + m ≤ maxLen) (hbytes : (n + m) * bytes ≤ 140737488355328) :
    ∃ v' w' H', (Builtin.append_ #[t, t] ty #[v, u]).run P w = .ok v' w' ∧ OwnsH H' e size v' (n + m) (xs ++ news) ∧ H'.sub w' ∧ w.grownBy w' v.ownBlock ∧
      (∀ b, H.mem b → some b ≠ v.ownBlock → H' b = H b) ∧ (∀ b, H'.mem b → H.mem b ∨ (v'.ownBlock = some b ∧ w.heap.size ≤ b)) ∧ (v'.ownBlock = v.ownBlock ∨ ∃ b, v'.ownBlock = some b ∧ w.heap.size ≤ b) := by
  subst hsize
  subst hby
  have hsmall : n + m ≤ 9223372036854775807 := by simp only [maxLen] at h63; omega
  rcases hu with ⟨a, c, rfl, hnews⟩ | ⟨⟨c, rfl⟩, rfl, rfl⟩
  rotate_left
  · refine ⟨v, w, H, append_none 0 t ty e i i.size ht hi v n xs (owns_row hs ho) c, by simpa using ho, hs, ⟨rfl, rfl, rfl, Nat.le_refl _, fun _ _ _ => rfl⟩, fun _ _ _ => rfl, fun b hb => Or.inl hb, Or.inl rfl⟩
  have hlen : (xs ++ news).length = (n + m) * i.size := by rw [List.length_append, ho.1, hl, Nat.add_mul]
  -- a new row
  have grown : ∀ (old : Nat), old < n + m → v.ownBlock = none ∨ (∃ g, v.ownBlock = some g ∧ g < w.heap.size) →
      ∃ H', OwnsH H' e i.size (.slice (some ⟨w.heap.size, 0, none⟩) (n + m) (grownCap w (n + m) old e)) (n + m) (xs ++ news) ∧
        H'.sub (w.drew.alloc (.cells (xs.toArray ++ news.toArray ++ Builtin.zeroCells z.cells (grownCap w (n + m) old e - (n + m))) e)) ∧
        w.grownBy (w.drew.alloc (.cells (xs.toArray ++ news.toArray ++ Builtin.zeroCells z.cells (grownCap w (n + m) old e - (n + m))) e)) v.ownBlock ∧
        (∀ b, H.mem b → some b ≠ v.ownBlock → H' b = H b) ∧ (∀ b, H'.mem b → H.mem b ∨ (some w.heap.size = some b ∧ w.heap.size ≤ b)) := by
    intro old hold hv
    have hge := grownCap_ge w (n + m) old e
    have hcm : grownCap w (n + m) old e ≤ maxLen := grownCap_le_maxLen w (n + m) old e h63
    let ob : Obj := .cells (xs.toArray ++ news.toArray ++ Builtin.zeroCells z.cells (grownCap w (n + m) old e - (n + m))) e
    refine ⟨fun b => if b = w.heap.size then some ob else H b, ⟨hlen, Or.inr ⟨w.heap.size, _, _, rfl, if_pos rfl, hge, hcm, ?_, ?_⟩⟩, ?_, ⟨rfl, rfl, rfl, by simp, fun k hk _ => heap_alloc_old w.drew _ hk⟩, ?_, ?_⟩
    · simp only [Array.size_append, List.size_toArray, size_zeroCells, hzs, ho.1, hl, ← Nat.add_mul]
      congr 1
      omega
    · simp only [Array.toList_append, List.append_assoc]
      rw [← List.append_assoc, ← hlen]
      exact List.take_left
    · intro b o hb
      simp only at hb
      split at hb
      · rename_i e1; subst e1; cases hb; exact heap_alloc_new w.drew _
      · have := hs b o hb
        rw [heap_alloc_old w.drew _ (Array.getElem?_eq_some_iff.1 this).1]
        exact this
    · intro b hb _
      have := Hl.sub_lt hs hb
      exact if_neg (by omega)
    · intro b hb
      by_cases e1 : b = w.heap.size
      · exact Or.inr ⟨by rw [e1], by omega⟩
      · left; unfold Hl.mem at hb ⊢; simpa [e1] using hb
  rcases ho.2 with ⟨rfl, rfl⟩ | ⟨g, cap, cur, rfl, hg, hnc, hcm, hcs, htake⟩
  · have hx : xs = [] := List.eq_nil_of_length_eq_zero (by simpa using ho.1)
    subst hx
    by_cases hm : m = 0
    · subst hm
      have hn : news = [] := List.eq_nil_of_length_eq_zero (by simpa using hl)
      subst hn
      refine ⟨.slice none 0 0, w, H, ?_, ho, hs, ⟨rfl, rfl, rfl, Nat.le_refl _, fun _ _ _ => rfl⟩, fun _ _ _ => rfl, fun b hb => Or.inl hb, Or.inl rfl⟩
      simp [Builtin.append_, run_underlying ht, sizeOf, typeInfo, hi, Builtin.lenOf, Builtin.firstCells, loadCells, loadCellsFrom]
    · have hr := run_append_nil (P := P) w t ty e i z ht hi hz a m c news hl hnews (by omega) (by omega) (by have hb := hbytes; simp only [Nat.zero_add] at hb; omega)
      obtain ⟨H', g1, g2, g3, g4, g5⟩ := grown 0 (by omega) (Or.inl rfl)
      simp only [Nat.zero_add, List.nil_append, Array.empty_append] at hr g1 g2 g3 g4 g5 ⊢
      exact ⟨_, _, H', hr, g1, g2, g3, g4, g5, Or.inr ⟨_, rfl, Nat.le_refl _⟩⟩
  · by_cases hroom : n + m ≤ cap
    · have hfit : n * i.size + news.length ≤ cur.size := by rw [hl, hcs, ← Nat.add_mul]; exact Nat.mul_le_mul_right _ hroom
      have hr := run_append_room (P := P) w t ty e i ht hi g n cap cur (hs _ _ hg) a m c news hl hnews h1 hroom hfit
      refine ⟨_, _, fun b => if b = g then some (.cells (cur.toList.take (n * i.size) ++ news ++ cur.toList.drop (n * i.size + news.length)).toArray e (0, 0)) else H b, hr,
        ⟨hlen, Or.inr ⟨g, cap, _, rfl, if_pos rfl, hroom, hcm, ?_, ?_⟩⟩, ?_, ⟨rfl, rfl, rfl, by simp, fun k _ hk => setRow_other w g k _ (fun e => hk (by simp [Value.ownBlock, e]))⟩, ?_, ?_, Or.inl rfl⟩
      · simp only [List.size_toArray, List.length_append, List.length_take, List.length_drop, Array.length_toList]
        omega
      · rw [htake, ← hlen]
        exact List.take_left
      · intro b o hb
        simp only at hb
        split at hb
        · rename_i e1; subst e1; cases hb; exact setRow_heap w b cur _ e _ (hs _ _ hg)
        · rename_i e1
          rw [setRow_other w g b _ e1]; exact hs b o hb
      · intro b hb hne
        exact if_neg (fun e1 => hne (by simp [Value.ownBlock, e1]))
      · intro b hb
        left
        by_cases e1 : b = g
        · subst e1; unfold Hl.mem; rw [hg]; rfl
        · unfold Hl.mem at hb ⊢; simpa [e1] using hb
    · have holds : ∀ j u, xs[j]? = some u → w.cell? ((⟨g, 0, none⟩ : Addr).add j) = some u := (owns_row hs ho).cells (g := g) rfl
      have hr := run_append_grow (P := P) w t ty e i z ht hi hz ⟨g, 0, none⟩ n cap xs ho.1 holds a m c news hl hnews (by omega) (by omega) (growslice_fits (by omega) hbytes)
      obtain ⟨H', g1, g2, g3, g4, g5⟩ := grown cap (by omega) (Or.inr ⟨g, rfl, (Array.getElem?_eq_some_iff.1 (hs _ _ hg)).1⟩)
      exact ⟨_, _, H', hr, g1, g2, g3, g4, g5, Or.inr ⟨_, rfl, Nat.le_refl _⟩⟩

theorem append_grow {t ty e : TypeId} {i : TypeInfo} {z : Value} {size bytes : Nat} (ht : P.underlying t = some (.slice e)) (hi : P.info? e = some i) (hz : i.zero = some z)
    (hsize : i.size = size) (hby : i.bytes = bytes) (hzs : z.cells.size = size) {b : Addr} {n cap : Nat} {olds : List Value} (hlo : olds.length = n * size) (holds : ∀ j x, olds[j]? = some x → w.cell? (b.add j) = some x)
    {u : Value} {m : Nat} {news : List Value} (hl : news.length = m * size) (hu : SrcAt w u m news) (hg : cap < n + m) (hnc : n ≤ cap) (h63 : n + m ≤ maxLen) (hbytes : (n + m) * bytes ≤ 140737488355328) :
    ∃ cp ob, (Builtin.append_ #[t, t] ty #[.slice (some b) n cap, u]).run P w = .ok (.slice (some ⟨w.heap.size, 0, none⟩) (n + m) cp) (w.drew.alloc ob) ∧
      OwnsH (Hl.one w.heap.size ob) e size (.slice (some ⟨w.heap.size, 0, none⟩) (n + m) cp) (n + m) (olds ++ news) := by
  subst hsize
  subst hby
  have hsmall : n + m ≤ 9223372036854775807 := by simp only [maxLen] at h63; omega
  rcases hu with ⟨a, c, rfl, hnews⟩ | ⟨⟨c, rfl⟩, rfl, rfl⟩
  rotate_left
  · omega
  have hr := run_append_grow (P := P) w t ty e i z ht hi hz b n cap olds hlo holds a m c news hl hnews hg (by omega) (growslice_fits (by omega) hbytes)
  have hge := grownCap_ge w (n + m) cap e
  have hcm : grownCap w (n + m) cap e ≤ maxLen := grownCap_le_maxLen w (n + m) cap e h63
  have hlen : (olds ++ news).length = (n + m) * i.size := by rw [List.length_append, hlo, hl, Nat.add_mul]
  refine ⟨_, _, hr, hlen, Or.inr ⟨w.heap.size, _, _, rfl, Hl.one_self _ _, hge, hcm, ?_, ?_⟩⟩
  · simp only [Array.size_append, List.size_toArray, size_zeroCells, hzs, hlo, hl, ← Nat.add_mul]
    congr 1
    omega
  · simp only [Array.toList_append, List.append_assoc]
    rw [← List.append_assoc, ← hlen]
    exact List.take_left
end
end Go.Sx
