/- Layer 22: what is parsed as a request: plain laws. Condition: bytes below 256. -/
import Derived.Test.YtkdllpialpfopaaAqO
set_option linter.unusedSimpArgs false
set_option linter.unusedVariables false
set_option linter.constructorNameAsVariable false
namespace Go.Proofs.Ytkdllpialpfopaa
open Go Go.Sx Go.Pk

/-! ### Rows of requests -/
def rqRow (id kind : Int) (pr : List Value) (cur : List Int) (all : Bool) (u : Value) (most writer seq : Int) : List Value :=
  [.int .u64 id, .int .i64 kind] ++ (pr ++ (us cur ++ [.bool all, u, .int .i64 most, .int .i64 writer, .int .u64 seq]))
section
variable {id kind most writer seq : Int} {pr : List Value} {cur : List Int} {all : Bool} {u : Value}
theorem rq_len (hp : pr.length = 126) (hc : cur.length = 6) : (rqRow id kind pr cur all u most writer seq).length = 139 := by
  unfold rqRow us; simp [hp, hc]
theorem rq_at2 (hp : pr.length = 126) {k : Nat} (hk : k < 126) : (rqRow id kind pr cur all u most writer seq)[k + 2]? = pr[k]? := by
  unfold rqRow
  show (pr ++ _)[k]? = _
  rw [List.getElem?_append_left (by omega)]
theorem rq_at128 (hp : pr.length = 126) (hc : cur.length = 6) {k : Nat} (hk : k < 6) : (rqRow id kind pr cur all u most writer seq)[128 + k]? = some (.int .u64 (cur.getD k 0)) := by
  rw [show 128 + k = 126 + k + 2 by omega]
  unfold rqRow
  show (pr ++ _)[126 + k]? = _
  rw [List.getElem?_append_right (by omega), hp, show 126 + k - 126 = k by omega, List.getElem?_append_left (by unfold us; rw [List.length_map]; omega)]
  unfold us
  rw [List.getElem?_map, List.getD_eq_getElem?_getD, List.getElem?_eq_getElem (by omega)]; rfl
theorem rq_at134 (hp : pr.length = 126) (hc : cur.length = 6) {k : Nat} : (rqRow id kind pr cur all u most writer seq)[134 + k]? = [Value.bool all, u, .int .i64 most, .int .i64 writer, .int .u64 seq][k]? := by
  rw [show 134 + k = 132 + k + 2 by omega]
  unfold rqRow
  show (pr ++ _)[132 + k]? = _
  rw [List.getElem?_append_right (by omega), hp, show 132 + k - 126 = 6 + k by omega, List.getElem?_append_right (by unfold us; rw [List.length_map]; omega)]
  congr 1
  unfold us
  rw [List.length_map]; omega
end
/-- What a request tells, part by part. -/
structure Told (r : Rq) (id kind : Int) (sz : Int) (cur : List Int) (all : Bool) (most writer seq : Int) : Prop where
  id : cI r.c 0 = id
  kind : cI r.c 1 = kind
  size : cI r.c 94 = sz
  cur : segI r.c 128 6 = cur
  all : cB r.c 134 = all
  most : cI r.c 136 = most
  writer : cI r.c 137 = writer
  seq : cI r.c 138 = seq
theorem us_ok : ∀ {l : List Int}, rowOK (us l) (List.replicate l.length (.int .u64))
  | [] => trivial
  | _ :: l => ⟨rfl, us_ok (l := l)⟩
theorem qkd_eq : qkd = [.int .u64, .int .i64] ++ (pkd ++ (List.replicate 6 (.int .u64) ++ [.bool, .slice, .int .i64, .int .i64, .int .u64])) := by kernel_rfl
/-- Parts make a request. -/
theorem mkRq {R1 R2 R3 : Hl} {id kind most writer seq : Int} {pr : List Value} {c : Pc} {cur : List Int} {all : Bool} {u : Value} {w : List (List Int)} (hp : IsPc R1 R2 pr c) (hcl : cur.length = 6) (hcu : u64s cur) (hid : 0 ≤ id ∧ id < 18446744073709551616) (hk : i64in kind) (hm : i64in most) (hw : i64in writer) (hs : 0 ≤ seq ∧ seq < 18446744073709551616)
    (hu : RdRows R3 u tkd (w.map bys)) (hws : toksIn w) : ∃ r : Rq, IsRq R1 R2 R3 (rqRow id kind pr cur all u most writer seq) r ∧ r.h = c.h ∧ r.b = c.b ∧ r.w = w ∧ Told r id kind (cI c.h.c 92) cur all most writer seq := by
  have hpl : pr.length = 126 := by rw [rowOK_len hp.ok]; kernel_rfl
  have hus : valIs (some u) .slice = true := by
    obtain ⟨x, y, c, e, _⟩ := hu
    rw [e]; rfl
  refine ⟨⟨(((rqRow id kind pr cur all u most writer seq).set 55 noV).set 127 noV).set 135 noV, c.h, c.b, w⟩, ⟨?_, ?_, rfl, ?_, ?_, hp.byte, hp.len, ?_, hws⟩, rfl, rfl, rfl, ?_⟩
  · rw [qkd_eq]
    have := us_ok (l := cur)
    rw [hcl] at this
    exact rowOK_app (ka := [.int .u64, .int .i64]) ⟨rfl, rfl, trivial⟩ (rowOK_app hp.ok (rowOK_app this ⟨rfl, hus, rfl, rfl, rfl, trivial⟩))
  · intro v hv
    unfold rqRow at hv
    simp only [List.mem_append, List.mem_cons, List.mem_nil_iff, or_false] at hv
    rcases hv with (rfl | rfl) | hv | hv | rfl | rfl | rfl | rfl | rfl
    · exact hid
    · exact hk
    · obtain ⟨k, hk⟩ := List.mem_iff_getElem?.1 hv
      have hkl : k < 126 := by have := (List.getElem?_eq_some_iff.1 hk).1; omega
      by_cases h125 : k < 125
      · refine hp.hd.rng v (List.mem_of_getElem? (i := k) ?_)
        rw [List.getElem?_take_of_lt h125]; exact hk
      · obtain ⟨k0, hk0⟩ : ∃ k0, k0 = k := ⟨k, rfl⟩
        have hk125 : k = 125 := by omega
        rw [hk125] at hk
        obtain ⟨v', hv', hi⟩ := rowOK_get hp.ok (k := 125) (kd := .slice) (by kernel_rfl)
        rw [hk] at hv'
        cases hv'
        cases v <;> simp [valIs] at hi
        trivial
    · unfold us at hv
      obtain ⟨z, hz, rfl⟩ := List.mem_map.1 hv
      exact hcu z hz
    · trivial
    · cases v <;> simp [valIs] at hus
      trivial
    · exact hm
    · exact hw
    · exact hs
  · have e : ((rqRow id kind pr cur all u most writer seq).drop 2).take 125 = pr.take 125 := by
      unfold rqRow
      show ((pr ++ _)).take 125 = _
      rw [List.take_append_of_le_length (by omega)]
    rw [e]; exact hp.hd
  · have e : (rqRow id kind pr cur all u most writer seq).getD 127 noV = pr.getD 125 noV := by
      rw [List.getD_eq_getElem?_getD, List.getD_eq_getElem?_getD, rq_at2 (k := 125) hpl (by omega)]
    rw [e]; exact hp.body
  · have e : (rqRow id kind pr cur all u most writer seq).getD 135 noV = u := by
      rw [List.getD_eq_getElem?_getD, rq_at134 (k := 1) hpl hcl]; rfl
    rw [e]; exact hu
  · have I : ∀ {k : Nat}, (k ≠ 55 ∧ k ≠ 127 ∧ k ≠ 135) → cI ((((rqRow id kind pr cur all u most writer seq).set 55 noV).set 127 noV).set 135 noV) k = cI (rqRow id kind pr cur all u most writer seq) k := fun h => rcore_I h
    have B : ∀ {k : Nat}, (k ≠ 55 ∧ k ≠ 127 ∧ k ≠ 135) → cB ((((rqRow id kind pr cur all u most writer seq).set 55 noV).set 127 noV).set 135 noV) k = cB (rqRow id kind pr cur all u most writer seq) k := fun h => rcore_B h
    refine ⟨?_, ?_, ?_, ?_, ?_, ?_, ?_, ?_⟩
    · rw [I (by decide)]; rfl
    · rw [I (by decide)]; rfl
    · rw [I (by decide)]
      have e : cI (rqRow id kind pr cur all u most writer seq) 94 = cI (pr.take 125) 92 := by
        unfold cI
        rw [rq_at2 (k := 92) hpl (by omega), List.getElem?_take_of_lt (by omega)]
      rw [e, hp.hd.I (by decide)]
    · match cur, hcl with
      | [v1, v2, v3, v4, v5, v6], _ =>
        have g : ∀ k, k < 6 → cI ((((rqRow id kind pr [v1, v2, v3, v4, v5, v6] all u most writer seq).set 55 noV).set 127 noV).set 135 noV) (128 + k) = [v1, v2, v3, v4, v5, v6].getD k 0 := fun k hk => by
          rw [rcore_I (by omega)]
          unfold cI
          rw [rq_at128 hpl rfl hk]; rfl
        show [cI _ 128, cI _ 129, cI _ 130, cI _ 131, cI _ 132, cI _ 133] = _
        rw [show cI _ 128 = v1 from g 0 (by omega), show cI _ 129 = v2 from g 1 (by omega), show cI _ 130 = v3 from g 2 (by omega), show cI _ 131 = v4 from g 3 (by omega), show cI _ 132 = v5 from g 4 (by omega), show cI _ 133 = v6 from g 5 (by omega)]
    · rw [B (by decide)]; unfold cB; rw [rq_at134 (k := 0) hpl hcl]; rfl
    · rw [I (by decide)]; unfold cI; rw [rq_at134 (k := 2) hpl hcl]; rfl
    · rw [I (by decide)]; unfold cI; rw [rq_at134 (k := 3) hpl hcl]; rfl
    · rw [I (by decide)]; unfold cI; rw [rq_at134 (k := 4) hpl hcl]; rfl
/-! ### What is parsed -/
def a1 (b : List Int) : PS := pNum 18446744073709551615 ⟨b, false⟩
def a2 (b : List Int) : PS := pNum 3 (a1 b)
def aK (b : List Int) : Int := vNum 3 (a1 b)
def aF (b : List Int) : PS :=
  if aK b = 1 then pPc (a2 b)
  else if aK b = 2 then pNum 8 (pWish (pNums 1048576 6 (a2 b)).2)
  else if aK b = 3 then pNum 1048576 (pNum 6 (a2 b))
  else a2 b
structure Prs (b : List Int) (r : Rq) : Prop where
  id : cI r.c 0 = vNum 18446744073709551615 ⟨b, false⟩
  kind : cI r.c 1 = aK b
  size : cI r.c 94 = cI r.h.c 92
  cur : segI r.c 128 6 = if aK b = 2 then (pNums 1048576 6 (a2 b)).1 else [0, 0, 0, 0, 0, 0]
  all : cB r.c 134 = if aK b = 2 then vFlag (pNums 1048576 6 (a2 b)).2 else false
  most : cI r.c 136 = if aK b = 2 then vNum 8 (pWish (pNums 1048576 6 (a2 b)).2) else 0
  writer : cI r.c 137 = if aK b = 3 then vNum 6 (a2 b) else 0
  seq : cI r.c 138 = if aK b = 3 then vNum 1048576 (pNum 6 (a2 b)) else 0
  w : r.w = if aK b = 2 then vWish (pNums 1048576 6 (a2 b)).2 else []
  bd : r.b = if aK b = 1 then vText 4096 (pText 4096 (a2 b)) else []
  h : if aK b = 1 then PdHd (vText 4096 (a2 b)) r.h else r.h = hz
theorem wishA {s : PS} (hb : bytes256 s.l) (h : (pWish s).bad = false) : s.bad = false ∧ s.l = flagB (vFlag s) ++ (numB (vWish s).length ++ ((vWish s).flatten ++ (pWish s).l)) ∧ (vWish s).length ≤ 8 := by
  obtain ⟨h1, h2⟩ := toksA _ _ h
  obtain ⟨h3, h4, h5, h6, _⟩ := numA (flag256 hb) h1
  obtain ⟨h7, h8⟩ := flagA h3 hb
  have hl : (vWish s).length = wN s := toks_len _ _
  refine ⟨h7, ?_, by rw [hl]; unfold wN; omega⟩
  rw [h8, h4, h2, hl]; rfl
theorem wishBk {s : PS} {al : Bool} {T : List (List Int)} {t : List Int} (hs : s = ⟨flagB al ++ (numB T.length ++ (T.flatten ++ t)), false⟩) (hT : ∀ x ∈ T, x.length = 16) (h8 : T.length ≤ 8) : pWish s = ⟨t, false⟩ ∧ vWish s = T ∧ vFlag s = al := by
  obtain ⟨s1, v1⟩ := flagS' hs
  obtain ⟨s2, v2⟩ := numS' (m := 8) (z := T.length) s1 (by omega) (by omega)
  have hN : wN s = T.length := by unfold wN; rw [v2]; exact Int.toNat_natCast _
  have sT := toksS' s2 hT
  unfold pWish vWish
  rw [hN, sT]
  exact ⟨rfl, rfl, v1⟩
theorem form_blen {r : Rq} {b : List Int} (hp : Prs b r) (hf : r.Form) : aK b = 1 ∨ aK b = 2 ∨ aK b = 3 := by
  rcases hf with h | h | h
  · rw [← hp.kind]; exact Or.inl h.1
  · rw [← hp.kind]; exact Or.inr (Or.inl h.1)
  · rw [← hp.kind]; exact Or.inr (Or.inr h.1)
/-- What is parsed whole, and formed, has these bytes. -/
theorem lawRA {b : List Int} {r : Rq} (hb : bytes256 b) (hp : Prs b r) (hf : r.Form) (h1 : (aF b).bad = false) (h2 : (aF b).l = []) : qB r = b := by
  have b1 : bytes256 (a1 b).l := num256 (s := ⟨b, false⟩) hb
  have b2 : bytes256 (a2 b).l := num256 b1
  have hK := form_blen hp hf
  have hKin := vNum_in (s := a1 b) (m := 3) (by omega)
  have main : (a2 b).bad = false → (a2 b).l = kindB r → qB r = b := by
    intro e1 e2
    obtain ⟨g1, g2, _⟩ := numA (m := 3) b1 e1
    obtain ⟨_, g3, k1, k2, _⟩ := numA (s := ⟨b, false⟩) (m := 18446744073709551615) hb g1
    have g3 : b = numB (vNum 18446744073709551615 ⟨b, false⟩).toNat ++ (a1 b).l := g3
    have g2 : (a1 b).l = numB (aK b).toNat ++ (a2 b).l := g2
    unfold qB
    rw [hp.id, hp.kind, u64N_id (z := aK b) (by unfold aK; omega) (by unfold aK; omega), ← e2, List.append_assoc, ← g2, ← g3]
  rcases hK with e | e | e
  · have eF : aF b = pPc (a2 b) := by unfold aF; rw [if_pos e]
    rw [eF] at h1 h2
    have l1 : bytes256 (pText 4096 (a2 b)).l := (text256 b2).1
    obtain ⟨x1, x2, _⟩ := textA (m := 4096) l1 h1
    obtain ⟨y1, y2, _⟩ := textA (m := 4096) b2 x1
    refine main y1 ?_
    have hh := hp.h
    rw [if_pos e] at hh
    have hform : r.h.Form ∧ hdB r.h = vText 4096 (a2 b) := by
      rcases hh with hh | ⟨hh, _⟩
      · exact hh
      · exfalso
        rcases hf with h | h | h
        · rw [hh] at h; exact hz_not h.2.2.2.1
        · have := h.1; rw [hp.kind] at this; omega
        · have := h.1; rw [hp.kind] at this; omega
    have hbb := hp.bd
    rw [if_pos e] at hbb
    unfold kindB
    rw [hp.kind, if_pos e]
    unfold pcB bytesOfH
    rw [if_pos hform.1, hform.2, hbb, y2, x2]
    show _ ++ (_ ++ (pPc (a2 b)).l) = _
    rw [h2, List.append_nil]
  · have eF : aF b = pNum 8 (pWish (pNums 1048576 6 (a2 b)).2) := by unfold aF; rw [if_neg (by omega), if_pos e]
    rw [eF] at h1 h2
    have l1 : bytes256 (pNums 1048576 6 (a2 b)).2.l := nums256 6 _ b2
    have l2 : bytes256 (pWish (pNums 1048576 6 (a2 b)).2).l := (toks256 _ _ (num256 (flag256 l1))).2
    obtain ⟨x1, x2, x3, x4, _⟩ := numA (m := 8) l2 h1
    obtain ⟨y1, y2, _⟩ := wishA l1 x1
    obtain ⟨z1, z2⟩ := numsA 6 (a2 b) b2 y1
    refine main z1 ?_
    have hc := hp.cur
    have ha := hp.all
    have hm := hp.most
    have hw := hp.w
    rw [if_pos e] at hc ha hm hw
    unfold kindB
    rw [hp.kind, if_neg (by omega), if_pos e, hc, ha, hm, hw, u64N_id x3 (by omega), z2, y2, x2, h2, List.append_nil]
    simp only [List.append_assoc]
  · have eF : aF b = pNum 1048576 (pNum 6 (a2 b)) := by unfold aF; rw [if_neg (by omega), if_neg (by omega), if_pos e]
    rw [eF] at h1 h2
    have l1 : bytes256 (pNum 6 (a2 b)).l := num256 b2
    obtain ⟨x1, x2, _⟩ := numA (m := 1048576) l1 h1
    obtain ⟨y1, y2, y3, y4, _⟩ := numA (m := 6) b2 x1
    refine main y1 ?_
    have hw := hp.writer
    have hs := hp.seq
    rw [if_pos e] at hw hs
    unfold kindB
    rw [hp.kind, if_neg (by omega), if_neg (by omega), if_pos e, hw, hs, u64N_id y3 (by omega), y2, x2, h2, List.append_nil]
theorem segZ {r r' : Rq} (h : segI r.c 128 6 = segI r'.c 128 6) : (zer (cI r.c) 128 6 ↔ zer (cI r'.c) 128 6) ∧ (r.Small ↔ r'.Small) := by
  refine ⟨zer_seg h, ?_⟩
  have g := seg_at h
  unfold Rq.Small
  rw [show cI r.c 128 = cI r'.c 128 from g 0 (by omega), show cI r.c 129 = cI r'.c 129 from g 1 (by omega), show cI r.c 130 = cI r'.c 130 from g 2 (by omega), show cI r.c 131 = cI r'.c 131 from g 3 (by omega), show cI r.c 132 = cI r'.c 132 from g 4 (by omega), show cI r.c 133 = cI r'.c 133 from g 5 (by omega)]
theorem form_congr {r r' : Rq} (h0 : cI r.c 1 = cI r'.c 1) (h1 : cI r.c 94 = cI r'.c 94) (h2 : segI r.c 128 6 = segI r'.c 128 6) (h3 : cB r.c 134 = cB r'.c 134) (h4 : cI r.c 136 = cI r'.c 136) (h5 : cI r.c 137 = cI r'.c 137) (h6 : cI r.c 138 = cI r'.c 138) (h7 : r.h = r'.h) (h8 : r.b = r'.b) (h9 : r.w = r'.w) : r.Form ↔ r'.Form := by
  obtain ⟨z1, z2⟩ := segZ h2
  unfold Rq.Form Rq.NoPull Rq.NoFetch Rq.NoPiece
  rw [h0, h1, z1, z2, h3, h4, h5, h6, h7, h8, h9]
theorem zer_segI {c : List Value} (h : zer (cI c) 128 6) : segI c 128 6 = [0, 0, 0, 0, 0, 0] := by
  have g := (zer_iff 6 128).1 h
  show [cI c 128, cI c 129, cI c 130, cI c 131, cI c 132, cI c 133] = _
  rw [show cI c 128 = 0 from g 0 (by omega), show cI c 129 = 0 from g 1 (by omega), show cI c 130 = 0 from g 2 (by omega), show cI c 131 = 0 from g 3 (by omega), show cI c 132 = 0 from g 4 (by omega), show cI c 133 = 0 from g 5 (by omega)]
theorem k_cur : ∀ k, k < 6 → qkd[128 + k]? = some (.int .u64) := by decide
/-- A formed request's bytes are parsed whole, and as a formed request. -/
theorem lawRB {R1 R2 R3 : Hl} {row : List Value} {r0 : Rq} (hx : IsRq R1 R2 R3 row r0) (hf : r0.Form) : (aF (qB r0)).bad = false ∧ (aF (qB r0)).l = [] ∧ ∀ (S1 S2 S3 : Hl) (row' : List Value) (r : Rq), Prs (qB r0) r → IsRq S1 S2 S3 row' r → r.Form := by
  have u : ∀ {k : Nat}, qkd[k]? = some (.int .u64) → (k ≠ 55 ∧ k ≠ 127 ∧ k ≠ 135) → 0 ≤ cI r0.c k ∧ cI r0.c k < 18446744073709551616 := fun {k} hk h => by
    rw [hx.I h]
    obtain ⟨v, hv, hi⟩ := rowOK_get hx.ok hk
    have := hx.rng v (List.mem_of_getElem? hv)
    unfold cI
    rw [hv]
    cases v <;> simp [valIs] at hi
    subst hi
    exact this
  have u0 := u (k := 0) (by kernel_rfl) (by decide)
  have u138 := u (k := 138) (by kernel_rfl) (by decide)
  have ht16 : ∀ t ∈ r0.w, t.length = 16 := fun t ht => (hx.toks.2 t ht).1
  generalize hb : qB r0 = b
  have hk : cI r0.c 1 = 1 ∨ cI r0.c 1 = 2 ∨ cI r0.c 1 = 3 := by
    rcases hf with h | h | h
    · exact Or.inl h.1
    · exact Or.inr (Or.inl h.1)
    · exact Or.inr (Or.inr h.1)
  have key : b = numB (cI r0.c 0).toNat ++ (numB (cI r0.c 1).toNat ++ kindB r0) := by
    rw [← hb]; unfold qB
    rw [u64N_id (z := cI r0.c 1) (by omega) (by omega), List.append_assoc]
  have s0 : (⟨b, false⟩ : PS) = ⟨_, false⟩ := congrArg (fun l => PS.mk l false) key
  obtain ⟨s1, v1⟩ := numS' (m := 18446744073709551615) (z := (cI r0.c 0).toNat) s0 (by omega) (by omega)
  have s1 : a1 b = ⟨_, false⟩ := s1
  obtain ⟨s2, v2⟩ := numS' (m := 3) (z := (cI r0.c 1).toNat) s1 (by omega) (by omega)
  have s2 : a2 b = ⟨kindB r0, false⟩ := s2
  have eK : aK b = cI r0.c 1 := by unfold aK; rw [v2]; omega
  rcases hf with h | h | h
  · obtain ⟨h1, hnp, hnf, hhf, hsz⟩ := h
    have hpad := isPad_in hhf.2.2.2.1
    have e94 : cI r0.c 94 = cI r0.h.c 92 := by
      rw [hx.I (by decide), hx.hd.I (k := 92) (by decide)]
      unfold cI
      rw [List.getElem?_take_of_lt (by omega), List.getElem?_drop]
    have hkb : kindB r0 = textBytes (hdB r0.h) ++ (textBytes r0.b ++ []) := by
      unfold kindB pcB bytesOfH
      rw [if_pos h1, if_pos hhf, List.append_nil]
    have hlen : (hdB r0.h).length ≤ 932 := by
      have := bytesOf_len hx.hd
      unfold bytesOfH at this
      rwa [if_pos hhf] at this
    rw [hkb] at s2
    obtain ⟨t1, w1⟩ := textBk (m := 4096) (b := hdB r0.h) (t := textBytes r0.b ++ []) (by omega) (by omega)
    obtain ⟨t2, w2⟩ := textBk (m := 4096) (b := r0.b) (t := []) (by omega) (by omega)
    rw [← s2] at t1 w1
    rw [← t1] at t2 w2
    have eF : aF b = ⟨[], false⟩ := by
      unfold aF pPc
      rw [if_pos (by omega)]; exact t2
    refine ⟨by rw [eF], by rw [eF], fun S1 S2 S3 row' r hp hx' => ?_⟩
    have hh := hp.h
    rw [if_pos (by omega), w1] at hh
    have ehd : r.h = r0.h := by
      rcases hh with ⟨q1, q2⟩ | ⟨_, q2⟩
      · exact hd_inj hx'.hd q1 hx.hd hhf q2
      · exact absurd rfl (q2 _ _ _ hx.hd hhf)
    have hbd := hp.bd
    rw [if_pos (by omega), w2] at hbd
    have c := hp.cur
    rw [if_neg (by omega)] at c
    have ca := hp.all
    rw [if_neg (by omega)] at ca
    have cm := hp.most
    rw [if_neg (by omega)] at cm
    have cw := hp.writer
    rw [if_neg (by omega)] at cw
    have cs := hp.seq
    rw [if_neg (by omega)] at cs
    have ct := hp.w
    rw [if_neg (by omega)] at ct
    refine (form_congr (r := r) (r' := r0) (by rw [hp.kind, eK]) (by rw [hp.size, ehd, e94]) (by rw [c, zer_segI hnp.1]) (by rw [ca, hnp.2.1]) (by rw [cm, hnp.2.2.2]) (by rw [cw, hnf.1]) (by rw [cs, hnf.2]) ehd hbd (by rw [ct, hnp.2.2.1])).2 (Or.inl ⟨h1, hnp, hnf, hhf, hsz⟩)
  · obtain ⟨h1, hnp, hnf, hsm, h8, hso, hal, hm1, hm2⟩ := id h
    have g : ∀ k, k < 6 → 0 ≤ cI r0.c (128 + k) := fun k hk => by
      exact (u (k := 128 + k) (k_cur k hk) (by omega)).1
    obtain ⟨m0, m1, m2, m3, m4, m5⟩ := hsm
    have hcv : ∀ v ∈ segI r0.c 128 6, 0 ≤ v ∧ v ≤ 1048576 ∧ v < 18446744073709551616 := by
      intro v hv
      have e : segI r0.c 128 6 = [cI r0.c 128, cI r0.c 129, cI r0.c 130, cI r0.c 131, cI r0.c 132, cI r0.c 133] := rfl
      rw [e] at hv
      have g0 := g 0 (by omega)
      have g1 := g 1 (by omega)
      have g2 := g 2 (by omega)
      have g3 := g 3 (by omega)
      have g4 := g 4 (by omega)
      have g5 := g 5 (by omega)
      simp only [Nat.reduceAdd, Nat.add_zero] at g0 g1 g2 g3 g4 g5
      simp only [List.mem_cons, List.mem_nil_iff, or_false] at hv
      rcases hv with rfl | rfl | rfl | rfl | rfl | rfl <;> omega
    have hkb : kindB r0 = vecB (segI r0.c 128 6) ++ (flagB (cB r0.c 134) ++ (numB r0.w.length ++ (r0.w.flatten ++ (numB (cI r0.c 136).toNat ++ [])))) := by
      unfold kindB
      rw [if_neg (by omega), if_pos h1, u64N_id (z := cI r0.c 136) (by omega) (by omega)]
      simp only [List.append_assoc, List.append_nil]
    rw [hkb] at s2
    have t1 := numsBk (m := 1048576) (segI r0.c 128 6) (flagB (cB r0.c 134) ++ (numB r0.w.length ++ (r0.w.flatten ++ (numB (cI r0.c 136).toNat ++ [])))) hcv
    rw [segI_len, ← s2] at t1
    have t1a : (pNums 1048576 6 (a2 b)).1 = segI r0.c 128 6 := congrArg Prod.fst t1
    have t1b : (pNums 1048576 6 (a2 b)).2 = ⟨_, false⟩ := congrArg Prod.snd t1
    obtain ⟨t2, w2, w3⟩ := wishBk t1b ht16 h8
    obtain ⟨t3, w4⟩ := numS' (m := 8) (z := (cI r0.c 136).toNat) t2 (by omega) (by omega)
    have eF : aF b = ⟨[], false⟩ := by
      unfold aF
      rw [if_neg (by omega), if_pos (by omega)]; exact t3
    refine ⟨by rw [eF], by rw [eF], fun S1 S2 S3 row' r hp hx' => ?_⟩
    have hh := hp.h
    rw [if_neg (by omega)] at hh
    have hbd := hp.bd
    rw [if_neg (by omega)] at hbd
    have c := hp.cur
    rw [if_pos (by omega)] at c
    have ca := hp.all
    rw [if_pos (by omega)] at ca
    have cm := hp.most
    rw [if_pos (by omega)] at cm
    have cw := hp.writer
    rw [if_neg (by omega)] at cw
    have cs := hp.seq
    rw [if_neg (by omega)] at cs
    have ct := hp.w
    rw [if_pos (by omega)] at ct
    have e94 : cI r0.c 94 = cI r0.h.c 92 := by
      rw [hx.I (by decide), hx.hd.I (k := 92) (by decide)]
      unfold cI
      rw [List.getElem?_take_of_lt (by omega), List.getElem?_drop]
    refine (form_congr (r := r) (r' := r0) (by rw [hp.kind, eK]) (by rw [hp.size, hh, e94, hnp.2]) (by rw [c, t1a]) (by rw [ca, w3]) (by rw [cm, w4]; omega) (by rw [cw, hnf.1]) (by rw [cs, hnf.2]) (by rw [hh, hnp.2]) (by rw [hbd, hnp.1]) (by rw [ct, w2])).2 (Or.inr (Or.inl h))
  · obtain ⟨h1, hnp, hnl, hw1, hw2, hs1, hs2⟩ := id h
    have hkb : kindB r0 = numB (cI r0.c 137).toNat ++ (numB (cI r0.c 138).toNat ++ []) := by
      unfold kindB
      rw [if_neg (by omega), if_neg (by omega), if_pos h1, u64N_id (z := cI r0.c 137) (by omega) (by omega), List.append_nil]
    rw [hkb] at s2
    obtain ⟨t1, w1⟩ := numS' (m := 6) (z := (cI r0.c 137).toNat) s2 (by omega) (by omega)
    obtain ⟨t2, w2⟩ := numS' (m := 1048576) (z := (cI r0.c 138).toNat) t1 (by omega) (by omega)
    have eF : aF b = ⟨[], false⟩ := by
      unfold aF
      rw [if_neg (by omega), if_neg (by omega), if_pos (by omega)]; exact t2
    refine ⟨by rw [eF], by rw [eF], fun S1 S2 S3 row' r hp hx' => ?_⟩
    have hh := hp.h
    rw [if_neg (by omega)] at hh
    have hbd := hp.bd
    rw [if_neg (by omega)] at hbd
    have c := hp.cur
    rw [if_neg (by omega)] at c
    have ca := hp.all
    rw [if_neg (by omega)] at ca
    have cm := hp.most
    rw [if_neg (by omega)] at cm
    have cw := hp.writer
    rw [if_pos (by omega)] at cw
    have cs := hp.seq
    rw [if_pos (by omega)] at cs
    have ct := hp.w
    rw [if_neg (by omega)] at ct
    have e94 : cI r0.c 94 = cI r0.h.c 92 := by
      rw [hx.I (by decide), hx.hd.I (k := 92) (by decide)]
      unfold cI
      rw [List.getElem?_take_of_lt (by omega), List.getElem?_drop]
    refine (form_congr (r := r) (r' := r0) (by rw [hp.kind, eK]) (by rw [hp.size, hh, e94, hnp.2]) (by rw [c, zer_segI hnl.1]) (by rw [ca, hnl.2.1]) (by rw [cm, hnl.2.2.2]) (by rw [cw, w1]; omega) (by rw [cs, w2]; omega) (by rw [hh, hnp.2]) (by rw [hbd, hnp.1]) (by rw [ct, hnl.2.2.1])).2 (Or.inr (Or.inr h))
end Go.Proofs.Ytkdllpialpfopaa
