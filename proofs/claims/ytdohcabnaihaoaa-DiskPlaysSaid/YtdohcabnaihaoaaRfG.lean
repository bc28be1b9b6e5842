/- Layer 7: a disk and a reference disk that tell the same stay so, whatever is done to both. Plain facts. -/
import Derived.Test.YtdohcabnaihaoaaRfF
set_option linter.unusedSimpArgs false
set_option linter.unusedVariables false
set_option linter.constructorNameAsVariable false
namespace Go.Proofs.Ytdohcabnaihaoaa
open Go Go.Sx

/-- Both tell the same. -/
structure Twin (D : DM) (M : RM) : Prop where
  ok : D.ok
  mok : M.ok
  len : M.now.length = D.n
  now : D.now = M.now.flatten
  nodup : (D.loose.map (·.1)).Nodup
  is : ∀ i : Nat, i < D.n → (M.is[i]? = some true ↔ ∃ p ∈ D.loose, p.1 = (i : Int))
  was : ∀ p ∈ D.loose, M.was[p.1.toNat]? = some p.2
  same : ∀ i : Nat, i < D.n → M.is[i]? = some false → M.was[i]? = M.now[i]?
  fuse : M.fuse = D.fuse
  gone : M.gone = D.gone
theorem splice_mid {α : Type} (A B C V : List α) (h : B.length = V.length) : splice (A ++ (B ++ C)) A.length V = A ++ (V ++ C) := by
  unfold splice
  rw [List.take_left, ← h, ← List.append_assoc, ← List.length_append, List.drop_left, List.append_assoc]
theorem flat_split {α : Type} : ∀ {rows : List (List α)} {i : Nat} {row : List α}, rows[i]? = some row → rows.flatten = (rows.take i).flatten ++ (row ++ (rows.drop (i + 1)).flatten)
  | [], i, row, h => by simp at h
  | r :: rows, 0, row, h => by
    simp only [List.getElem?_cons_zero, Option.some.injEq] at h
    subst h
    simp
  | r :: rows, i + 1, row, h => by
    have ih := flat_split (rows := rows) (i := i) (row := row) (by simpa using h)
    simp only [List.flatten_cons, List.take_succ_cons, List.drop_succ_cons, List.append_assoc]
    rw [ih]
theorem flat64 : ∀ {rows : List (List Int)}, (∀ r ∈ rows, r.length = 64) → rows.flatten.length = 64 * rows.length
  | [], _ => by simp
  | r :: rows, h => by
    rw [List.flatten_cons, List.length_append, h r (List.mem_cons_self ..), flat64 fun r hr => h r (List.mem_cons_of_mem _ hr), List.length_cons]; omega
theorem take64 {rows : List (List Int)} (h : ∀ r ∈ rows, r.length = 64) {i : Nat} (hi : i ≤ rows.length) : (rows.take i).flatten.length = 64 * i := by
  rw [flat64 fun r hr => h r (List.mem_of_mem_take hr), List.length_take, Nat.min_eq_left hi]
theorem flat_sec {rows : List (List Int)} (h : ∀ r ∈ rows, r.length = 64) {i : Nat} {r : List Int} (hr : rows[i]? = some r) : (rows.flatten.drop (64 * i)).take 64 = r := by
  have hi := (List.getElem?_eq_some_iff.1 hr).1
  rw [flat_split hr, ← take64 h (Nat.le_of_lt hi), List.drop_left, ← h r (List.mem_of_getElem? hr), List.take_left]
theorem flat_set {rows : List (List Int)} (h : ∀ r ∈ rows, r.length = 64) {i : Nat} (hi : i < rows.length) {bs : List Int} (hb : bs.length = 64) : (rows.set i bs).flatten = splice rows.flatten (64 * i) bs := by
  have hr : rows[i]? = some rows[i] := List.getElem?_eq_getElem hi
  have e2 := flat_split (rows := rows.set i bs) (i := i) (row := bs) (by rw [List.getElem?_set_self hi])
  rw [List.take_set_of_le (by omega), List.drop_set_of_lt (by omega)] at e2
  rw [e2, flat_split hr, ← take64 h (Nat.le_of_lt hi), splice_mid _ _ _ _ (by rw [hb, h _ (List.getElem_mem hi)])]
theorem Twin.sec {D : DM} {M : RM} (t : Twin D M) {i : Nat} {r : List Int} (hr : M.now[i]? = some r) : D.sector i = r := by
  unfold DM.sector
  rw [t.now, Int.toNat_natCast]
  exact flat_sec t.mok.now hr
/-! ### Which are loose -/
def isAt (M : RM) (i : Nat) : Bool := M.is.getD i false
theorem cnt_range (M : RM) : ∀ k, k ≤ M.is.length → cntB (M.is.take k) = ((List.range k).filter (isAt M)).length
  | 0, _ => rfl
  | k + 1, h => by
    have hk : M.is[k]? = some M.is[k] := List.getElem?_eq_getElem (by omega)
    have e : isAt M k = M.is[k] := getD_of hk
    rw [List.take_add_one, hk, Option.toList_some, cntB_snoc, cnt_range M k (by omega), List.range_succ, List.filter_append, List.length_append, List.filter_cons, e]
    cases M.is[k] <;> rfl
theorem filter_at {p : Nat → Bool} : ∀ (n k : Nat), k < n → p k = true → ((List.range n).filter p)[((List.range k).filter p).length]? = some k
  | 0, _, h, _ => absurd h (Nat.not_lt_zero _)
  | n + 1, k, h, hp => by
    rw [List.range_succ, List.filter_append]
    rcases (by omega : k < n ∨ k = n) with hk | hk
    · have ih := filter_at n k hk hp
      rw [List.getElem?_append_left (List.getElem?_eq_some_iff.1 ih).1]
      exact ih
    · subst hk
      rw [List.getElem?_append_right (Nat.le_refl _), Nat.sub_self, List.filter_cons, if_pos hp]; rfl
theorem isAt_iff {M : RM} {i : Nat} (h : i < M.is.length) : isAt M i = true ↔ M.is[i]? = some true := by
  have hk : M.is[i]? = some M.is[i] := List.getElem?_eq_getElem h
  have e : isAt M i = M.is[i] := getD_of hk
  rw [e, hk]; simp
theorem sortK_self {l : List Int} (h : l.Pairwise (fun a b => a ≤ b)) : sortK l = l := by
  unfold sortK
  exact List.mergeSort_of_pairwise (h.imp fun hab => by simpa using hab)
theorem range_sorted (n : Nat) (p : Nat → Bool) : (((List.range n).filter p).map fun (i : Nat) => (i : Int)).Pairwise (fun a b => a ≤ b) := by
  rw [List.pairwise_map]
  refine (List.Pairwise.filter _ (List.pairwise_lt_range (n := n))).imp fun h => by omega
theorem Twin.perm {D : DM} {M : RM} (t : Twin D M) : (D.loose.map (·.1)).Perm (((List.range D.n).filter (isAt M)).map fun (i : Nat) => (i : Int)) := by
  have hil : M.is.length = D.n := by rw [t.mok.il, t.len]
  refine (List.perm_ext_iff_of_nodup t.nodup ?_).2 fun x => ?_
  · show List.Pairwise _ _
    rw [List.pairwise_map]
    exact List.Pairwise.imp (fun h e => h (by omega)) (List.Pairwise.filter _ (List.nodup_range (n := D.n)))
  · rw [List.mem_map, List.mem_map]
    constructor
    · rintro ⟨p, hp, rfl⟩
      obtain ⟨_, h0, h1⟩ := t.ok.loose p hp
      refine ⟨p.1.toNat, ?_, by omega⟩
      rw [List.mem_filter, List.mem_range]
      refine ⟨by omega, (isAt_iff (by omega)).2 ((t.is _ (by omega)).2 ⟨p, hp, by omega⟩)⟩
    · rintro ⟨i, hi, rfl⟩
      rw [List.mem_filter, List.mem_range] at hi
      obtain ⟨p, hp, e⟩ := (t.is i hi.1).1 ((isAt_iff (by omega)).1 hi.2)
      exact ⟨p, hp, e⟩
theorem Twin.keys {D : DM} {M : RM} (t : Twin D M) : sortK (D.loose.map (·.1)) = ((List.range D.n).filter (isAt M)).map fun (i : Nat) => (i : Int) := by
  rw [sortK_perm t.perm, sortK_self (range_sorted _ _)]
theorem Twin.count {D : DM} {M : RM} (t : Twin D M) : D.loose.length = cntB M.is := by
  have hil : M.is.length = D.n := by rw [t.mok.il, t.len]
  have h := t.perm.length_eq
  rw [List.length_map, List.length_map] at h
  have e := cnt_range M D.n (by omega)
  rw [List.take_of_length_le (by omega)] at e
  rw [h, e]
theorem Twin.wasOf {D : DM} {M : RM} (t : Twin D M) {k : Nat} (hk : k < D.n) (hb : M.is[k]? = some true) : some (wasOf D.loose k) = M.was[k]? := by
  obtain ⟨p, hp, e⟩ := (t.is k hk).1 hb
  unfold Go.Proofs.Ytdohcabnaihaoaa.wasOf
  cases hf : D.loose.find? fun p => p.1 == (k : Int) with
  | none =>
    have := List.find?_eq_none.1 hf p hp
    simp [e] at this
  | some q =>
    have h1 := List.mem_of_find?_eq_some hf
    have h2 := List.find?_some hf
    have h2 : q.1 = (k : Int) := by simpa using h2
    have := t.was q h1
    rw [h2, Int.toNat_natCast] at this
    exact this.symm
/-! ### What is done -/
theorem Twin.new (n : Int) : Twin (newD n) (rnewM n) := by
  have hk := sects_le n
  refine ⟨⟨?_, hk, Int.le_refl _, (by decide : (-1 : Int) ≤ 9223372036854775807), (fun _ h => nomatch h)⟩, rnewM_ok n, ?_, ?_, List.nodup_nil, fun i hi => ?_, (fun _ h => nomatch h), fun i hi _ => rfl, rfl, rfl⟩
  · show (List.replicate (64 * sects n) (0 : Int)).length = _
    rw [List.length_replicate]; rfl
  · show (List.replicate _ _).length = _
    rw [List.length_replicate]; rfl
  · show List.replicate (64 * sects n) (0 : Int) = (List.replicate (sects n) z64).flatten
    unfold z64
    rw [List.flatten_replicate_replicate, Nat.mul_comm]
  · have hi : i < sects n := hi
    show (List.replicate (sects n) false)[i]? = some true ↔ ∃ p ∈ ([] : List (Int × List Int)), _
    rw [List.getElem?_replicate, if_pos hi]
    simp
theorem Twin.fused {D : DM} {M : RM} (t : Twin D M) {n : Int} (hn : n ≤ 9223372036854775807) : Twin (fuseD D n) { M with fuse := max n (-1) } :=
  ⟨fuseD_ok t.ok hn, ⟨t.mok.now, t.mok.was, t.mok.wl, t.mok.il, t.mok.n, by show -1 ≤ max n (-1); omega, by show max n (-1) ≤ _; omega⟩, t.len, t.now, t.nodup, t.is, t.was, t.same, rfl, t.gone⟩
theorem Twin.off {D : DM} {M : RM} (t : Twin D M) : Twin { D with gone := true } { M with gone := true } :=
  ⟨⟨t.ok.now, t.ok.n, t.ok.f0, t.ok.f1, t.ok.loose⟩, t.mok.gone, t.len, t.now, t.nodup, t.is, t.was, t.same, t.fuse, rfl⟩
theorem Twin.offM {D : DM} {M : RM} (t : Twin D M) (h : D.gone = true) : Twin D { M with gone := true } :=
  ⟨t.ok, t.mok.gone, t.len, t.now, t.nodup, t.is, t.was, t.same, t.fuse, h.symm⟩
theorem loose_iff {D : DM} {i : Int} : (mapGo i (lv D.loose) 0).isSome = true ↔ ∃ p ∈ D.loose, p.1 = i := by
  constructor
  · intro h
    obtain ⟨⟨qn, qv⟩, hq⟩ := Option.isSome_iff_exists.1 h
    obtain ⟨_, hv⟩ := mapGo_some hq
    unfold lv at hv
    rw [List.getElem?_map, Option.map_eq_some_iff] at hv
    obtain ⟨p, hp, he⟩ := hv
    exact ⟨p, List.mem_of_getElem? hp, (Prod.mk.inj he).1⟩
  · intro h
    obtain ⟨j, hj⟩ := mapGo_was 0 h
    rw [hj]; rfl
theorem Twin.write {D : DM} {M : RM} (t : Twin D M) (i : Int) (bs : List Int) : (writeR D i bs).1 = (rwriteR M i bs).1 ∧ Twin (writeR D i bs).2 (rwriteR M i bs).2 := by
  unfold writeR rwriteR
  have hil : M.is.length = D.n := by rw [t.mok.il, t.len]
  by_cases h1 : D.has i = false ∨ bs.length ≠ 64
  · have h1' : i < 0 ∨ (M.now.length : Int) ≤ i ∨ bs.length ≠ 64 := by
      rcases h1 with h | h
      · unfold DM.has at h
        simp only [decide_eq_false_iff_not] at h
        rw [t.len]; omega
      · exact Or.inr (Or.inr h)
    rw [if_pos h1, if_pos h1']
    exact ⟨rfl, t⟩
  · have hh : D.has i = true := by
      cases h : D.has i
      · exact absurd (Or.inl h) h1
      · rfl
    have hb : bs.length = 64 := Decidable.byContradiction fun h => h1 (Or.inr h)
    have hr := hh
    unfold DM.has at hr
    simp only [decide_eq_true_eq] at hr
    have h1' : ¬ (i < 0 ∨ (M.now.length : Int) ≤ i ∨ bs.length ≠ 64) := by rw [t.len]; omega
    rw [if_neg h1, if_neg h1']
    by_cases hg : D.gone = true
    · rw [if_pos hg, if_pos (Or.inl (t.gone.trans hg))]
      exact ⟨rfl, t.offM hg⟩
    · rw [if_neg hg]
      by_cases hz : D.fuse = 0
      · rw [if_pos hz, if_pos (Or.inr (t.fuse.trans hz))]
        exact ⟨rfl, t.off⟩
      · have hgz : ¬ (M.gone = true ∨ M.fuse = 0) := by rw [t.gone, t.fuse]; exact fun e => e.elim hg hz
        rw [if_neg hz, if_neg hgz]
        refine ⟨rfl, ?_⟩
        have hin : i.toNat < M.now.length := by rw [t.len]; omega
        have hnow : M.now[i.toNat]? = some M.now[i.toNat] := List.getElem?_eq_getElem hin
        have hsec : D.sector i = M.now[i.toNat] := by
          have := t.sec hnow
          rwa [show ((i.toNat : Nat) : Int) = i by omega] at this
        have hmok : ({ now := M.now.set i.toNat bs, was := M.was, is := M.is.set i.toNat true, fuse := lessF M.fuse, gone := false } : RM).ok := by
          refine ⟨fun r hr => ?_, t.mok.was, by show _ = (M.now.set _ _).length; rw [List.length_set]; exact t.mok.wl, by show (M.is.set _ _).length = (M.now.set _ _).length; rw [List.length_set, List.length_set]; exact t.mok.il, by show (M.now.set _ _).length ≤ _; rw [List.length_set]; exact t.mok.n, (lessF_ok t.mok.f0 t.mok.f1).1, (lessF_ok t.mok.f0 t.mok.f1).2⟩
          rcases List.mem_or_eq_of_mem_set hr with hr | hr
          · exact t.mok.now r hr
          · rw [hr]; exact hb
        have hlen : (M.now.set i.toNat bs).length = D.n := by rw [List.length_set, t.len]
        have hflat : splice D.now (64 * i.toNat) bs = (M.now.set i.toNat bs).flatten := by rw [flat_set t.mok.now hin hb, t.now]
        have hfuse : lessF M.fuse = if 0 < D.fuse then D.fuse - 1 else D.fuse := by unfold lessF; rw [t.fuse]
        have hsame : ∀ j : Nat, j < D.n → (M.is.set i.toNat true)[j]? = some false → M.was[j]? = (M.now.set i.toNat bs)[j]? := by
          intro j hj hf
          rw [List.getElem?_set] at hf ⊢
          by_cases e : i.toNat = j
          · rw [if_pos e, if_pos (by omega)] at hf; cases hf
          · rw [if_neg e] at hf ⊢
            exact t.same j hj hf
        have hok := putD_ok t.ok hh hb
        unfold putD at hok ⊢
        by_cases hm : (mapGo i (lv D.loose) 0).isSome = true
        · rw [if_pos hm] at hok ⊢
          refine ⟨hok, hmok, hlen, hflat, t.nodup, fun j hj => ?_, t.was, hsame, hfuse, rfl⟩
          show (M.is.set i.toNat true)[j]? = some true ↔ _
          rw [List.getElem?_set]
          by_cases e : i.toNat = j
          · rw [if_pos e, if_pos (by omega)]
            obtain ⟨p, hp, he⟩ := loose_iff.1 hm
            exact ⟨fun _ => ⟨p, hp, by omega⟩, fun _ => rfl⟩
          · rw [if_neg e]
            exact t.is j hj
        · rw [if_neg hm] at hok ⊢
          have hnone : ∀ p ∈ D.loose, p.1 ≠ i := fun p hp e => hm (loose_iff.2 ⟨p, hp, e⟩)
          have hisf : M.is[i.toNat]? = some false := by
            have hk : M.is[i.toNat]? = some M.is[i.toNat] := List.getElem?_eq_getElem (by omega)
            cases hv : M.is[i.toNat] with
            | false => rw [hk, hv]
            | true =>
              exfalso
              obtain ⟨p, hp, e⟩ := (t.is i.toNat (by omega)).1 (by rw [hk, hv])
              exact hnone p hp (by omega)
          refine ⟨hok, hmok, hlen, hflat, ?_, fun j hj => ?_, fun p hp => ?_, hsame, hfuse, rfl⟩
          · show ((D.loose ++ [(i, D.sector i)]).map (·.1)).Nodup
            rw [List.map_append, List.nodup_append]
            refine ⟨t.nodup, by simp, fun a ha b hb' => ?_⟩
            obtain ⟨p, hp, rfl⟩ := List.mem_map.1 ha
            have : b = i := by simpa using hb'
            rw [this]
            exact hnone p hp
          · show (M.is.set i.toNat true)[j]? = some true ↔ ∃ p ∈ D.loose ++ [(i, D.sector i)], _
            rw [List.getElem?_set]
            by_cases e : i.toNat = j
            · rw [if_pos e, if_pos (by omega)]
              exact ⟨fun _ => ⟨_, List.mem_append_right _ (List.mem_singleton.2 rfl), by show i = _; omega⟩, fun _ => rfl⟩
            · rw [if_neg e, t.is j hj]
              constructor
              · rintro ⟨p, hp, h⟩
                exact ⟨p, List.mem_append_left _ hp, h⟩
              · rintro ⟨p, hp, h⟩
                rcases List.mem_append.1 hp with hp | hp
                · exact ⟨p, hp, h⟩
                · rw [List.mem_singleton] at hp
                  subst hp
                  have h : i = (j : Int) := h
                  omega
          · show M.was[p.1.toNat]? = _
            rcases List.mem_append.1 hp with hp | hp
            · exact t.was p hp
            · rw [List.mem_singleton] at hp
              subst hp
              show M.was[i.toNat]? = some (D.sector i)
              rw [t.same _ (by omega) hisf, hnow, hsec]
theorem Twin.sync {D : DM} {M : RM} (t : Twin D M) : (syncR D).1 = (rsyncR M).1 ∧ Twin (syncR D).2 (rsyncR M).2 := by
  unfold syncR rsyncR
  by_cases hg : D.gone = true
  · rw [if_pos hg, if_pos (Or.inl (t.gone.trans hg))]
    exact ⟨rfl, t.offM hg⟩
  · rw [if_neg hg]
    by_cases hz : D.fuse = 0
    · rw [if_pos hz, if_pos (Or.inr (t.fuse.trans hz))]
      exact ⟨rfl, t.off⟩
    · have hgz : ¬ (M.gone = true ∨ M.fuse = 0) := by rw [t.gone, t.fuse]; exact fun e => e.elim hg hz
      rw [if_neg hz, if_neg hgz]
      have hf := lessF_ok t.mok.f0 t.mok.f1
      have hfuse : lessF M.fuse = if 0 < D.fuse then D.fuse - 1 else D.fuse := by unfold lessF; rw [t.fuse]
      refine ⟨rfl, ⟨⟨t.ok.now, t.ok.n, by rw [← hfuse]; exact hf.1, by rw [← hfuse]; exact hf.2, (fun _ h => nomatch h)⟩, ⟨t.mok.now, t.mok.now, rfl, List.length_replicate, t.mok.n, hf.1, hf.2⟩, t.len, t.now, List.nodup_nil, fun i hi => ?_, (fun _ h => nomatch h), fun i hi _ => rfl, hfuse, (Bool.eq_false_iff.2 hg).symm⟩⟩
      have hi : i < D.n := hi
      show (List.replicate M.now.length false)[i]? = some true ↔ ∃ p ∈ ([] : List (Int × List Int)), _
      rw [List.getElem?_replicate, if_pos (by rw [t.len]; exact hi)]
      simp
theorem mixN_64 {M : RM} (h : M.ok) (fate : List Int) (k : Nat) : ∀ r ∈ mixN M fate k, r.length = 64 := by
  intro r hr
  rcases List.mem_append.1 hr with hr | hr
  · obtain ⟨j, hj, rfl⟩ := List.mem_map.1 (List.mem_of_mem_take hr)
    exact rtorn_len h fate (List.mem_range.1 hj)
  · exact h.now r (List.mem_of_mem_drop hr)
theorem Twin.torn {D : DM} {M : RM} (t : Twin D M) (fate : List Int) : ∀ k, k ≤ D.n → crashN D.loose fate D.now (sortK (D.loose.map (·.1))) (cntB (M.is.take k)) = (mixN M fate k).flatten
  | 0, _ => by
    show D.now = _
    rw [t.now]; unfold mixN; simp
  | k + 1, hk => by
    have ih := Twin.torn t fate k (by omega)
    have hil : M.is.length = D.n := by rw [t.mok.il, t.len]
    have hkn : k < M.now.length := by rw [t.len]; omega
    obtain ⟨nk, hnk⟩ : ∃ r, M.now[k]? = some r := ⟨_, List.getElem?_eq_getElem hkn⟩
    have hb : M.is[k]? = some M.is[k] := List.getElem?_eq_getElem (by omega)
    have hbD : M.is.getD k false = M.is[k] := getD_of hb
    have htk : M.is.take (k + 1) = M.is.take k ++ [M.is[k]] := by rw [List.take_add_one, hb]; rfl
    have hset := set_mix (nowC_len M fate) (nowC_get (fate := fate) hkn)
    have hget : (mixN M fate k)[k]? = some nk := by unfold mixN; rw [mix_get (nowC_len M fate) (by rw [nowC_len]; omega)]; exact hnk
    have hml : (mixN M fate k).length = M.now.length := by unfold mixN; rw [mix_len (nowC_len M fate) (by rw [nowC_len]; omega), nowC_len]
    have hset : mixN M fate (k + 1) = (mixN M fate k).set k (rtorn M fate k) := hset.symm
    rw [htk, cntB_snoc]
    cases hv : M.is[k] with
    | false =>
      rw [if_neg (by simp), Nat.add_zero, ih, hset]
      have hrt : rtorn M fate k = nk := by unfold rtorn; rw [hbD, hv, if_neg (by simp), getD_of hnk]
      rw [hrt, set_self hget]
    | true =>
      rw [if_pos rfl]
      have hks : (sortK (D.loose.map (·.1))).getD (cntB (M.is.take k)) 0 = (k : Int) := by
        rw [t.keys, cnt_range M k (by omega)]
        refine getD_of ?_
        rw [List.getElem?_map, filter_at D.n k (by omega) ((isAt_iff (by omega)).2 (by rw [hb, hv]))]; rfl
      unfold crashN
      rw [hks, ih, Int.toNat_natCast]
      have hsec : secOf (mixN M fate k).flatten (k : Int) = nk := by
        unfold secOf
        rw [Int.toNat_natCast]
        exact flat_sec (mixN_64 t.mok fate k) hget
      have hw := t.wasOf (by omega : k < D.n) (by rw [hb, hv])
      have hrt : rtorn M fate k = tornI (Go.Proofs.Ytdohcabnaihaoaa.wasOf D.loose k) nk (fateAt fate (cntB (M.is.take k))) := by
        unfold rtorn
        rw [hbD, hv, if_pos rfl, getD_of hnk, getD_of hw.symm]
      rw [hsec, hset, ← hrt, flat_set (mixN_64 t.mok fate k) (by omega) (rtorn_len t.mok fate hkn)]
theorem Twin.crash {D : DM} {M : RM} (t : Twin D M) (fate : List Int) : Twin (crashD D fate) (crashM M fate) := by
  have hil : M.is.length = D.n := by rw [t.mok.il, t.len]
  refine ⟨crashD_ok t.ok fate, crashM_ok t.mok fate, (nowC_len M fate).trans t.len, ?_, List.nodup_nil, fun i hi => ?_, (fun _ h => nomatch h), fun i hi _ => ?_, rfl, rfl⟩
  · show crashN D.loose fate D.now (sortK (D.loose.map (·.1))) D.loose.length = (nowC M fate).flatten
    have h := t.torn fate D.n (Nat.le_refl _)
    rw [List.take_of_length_le (by omega)] at h
    rw [t.count, h]
    unfold mixN
    rw [List.take_of_length_le (by rw [nowC_len, t.len]; omega), List.drop_eq_nil_of_le (by rw [t.len]; omega), List.append_nil]
  · have hi : i < D.n := hi
    show (List.replicate M.now.length false)[i]? = some true ↔ ∃ p ∈ ([] : List (Int × List Int)), _
    rw [List.getElem?_replicate, if_pos (by rw [t.len]; exact hi)]
    simp
  · have hi : i < D.n := hi
    have hin : i < M.now.length := by rw [t.len]; exact hi
    show (wasC M fate)[i]? = (nowC M fate)[i]?
    rw [wasC_get hin, nowC_get hin]
    have hb : M.is[i]? = some M.is[i] := List.getElem?_eq_getElem (by omega)
    have hbD : M.is.getD i false = M.is[i] := getD_of hb
    congr 1
    unfold rtornW
    cases hv : M.is[i] with
    | true => rw [hbD, hv, if_pos rfl]
    | false =>
      rw [hbD, hv, if_neg (by simp)]
      unfold rtorn
      rw [hbD, hv, if_neg (by simp), List.getD_eq_getElem?_getD, List.getD_eq_getElem?_getD, t.same i hi (by rw [hb, hv])]
end Go.Proofs.Ytdohcabnaihaoaa
