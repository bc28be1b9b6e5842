/- Headers by what they tell: entry.Formed as a contract. Condition: the tokens are bytes, of few. -/
import Derived.Test.YtnlejejjeilpoaaForm3
import Derived.Test.YtnlejejjeilpoaaSxF
set_option linter.unusedSimpArgs false
set_option linter.unusedVariables false
set_option linter.constructorNameAsVariable false
namespace Go.Ex
open Go

/-- An expression that reads no memory, and only some variables. -/
def E.dry (S B : Nat → Bool) : E → Bool
  | .lit _ | .tt | .ff => true
  | .var i => S i
  | .bvar i => B i
  | .add a b | .sub a b | .mul a b | .quo a b | .rem a b | .bits _ _ a b | .shl _ a b | .shr _ a b | .and a b | .or a b | .lt a b | .le a b | .eq a b | .beq a b => a.dry S B && b.dry S B
  | .wrap _ a | .not a => a.dry S B
  | .ite c a b => c.dry S B && a.dry S B && b.dry S B
  | .romI _ _ _ | .romB _ _ _ | .romP _ _ _ _ | .romIs _ _ _ _ => false
theorem dry_ev {S B : Nat → Bool} {ρ ρ' : Env} (hi : ∀ k, S k = true → ρ'.i k = ρ.i k) (hb : ∀ k, B k = true → ρ'.b k = ρ.b k) : ∀ e : E, e.dry S B = true → iev ρ' e = iev ρ e ∧ bev ρ' e = bev ρ e := by
  intro e
  induction e with
  | lit n => exact fun _ => ⟨rfl, rfl⟩
  | tt => exact fun _ => ⟨rfl, rfl⟩
  | ff => exact fun _ => ⟨rfl, rfl⟩
  | var i => exact fun h => ⟨hi i h, rfl⟩
  | bvar i => exact fun h => ⟨rfl, hb i h⟩
  | wrap k a iha => exact fun h => ⟨by rw [iev_wrap, iev_wrap, (iha h).1], rfl⟩
  | not a iha => exact fun h => ⟨rfl, by rw [bev_not, bev_not, (iha h).2]⟩
  | ite c a b ihc iha ihb =>
    intro h
    simp only [E.dry, Bool.and_eq_true] at h
    exact ⟨by rw [iev_ite, iev_ite, (ihc h.1.1).2, (iha h.1.2).1, (ihb h.2).1], by rw [bev_ite, bev_ite, (ihc h.1.1).2, (iha h.1.2).2, (ihb h.2).2]⟩
  | romI | romB | romP | romIs => intro h; cases h
  | add a b iha ihb | sub a b iha ihb | mul a b iha ihb | quo a b iha ihb | rem a b iha ihb | bits _ _ a b iha ihb | shl _ a b iha ihb | shr _ a b iha ihb | and a b iha ihb | or a b iha ihb | lt a b iha ihb | le a b iha ihb | eq a b iha ihb | beq a b iha ihb =>
    intro h
    simp only [E.dry, Bool.and_eq_true] at h
    have x := iha h.1
    have y := ihb h.2
    refine ⟨?_, ?_⟩
    · first | rfl | (simp only [iev_add, iev_sub, iev_mul, iev_quo, iev_rem, iev_bits, iev_shl, iev_shr, x.1, y.1])
    · first | rfl | (simp only [bev_and, bev_or, bev_lt, bev_le, bev_eq, bev_beq, x.1, y.1, x.2, y.2])
end Go.Ex
namespace Go.Proofs.Ytnlejejjeilpoaa.V2
open Go Go.Sx

/-- A header's cells, the tokens' slice as it is. -/
def hkv : List Ck := [.int .i64, .int .u64] ++ List.replicate 32 (.int .u8) ++ [.int .i64, .bool, .int .u64] ++ List.replicate 16 (.int .u8) ++ [.any] ++ List.replicate 6 (.int .u64) ++ List.replicate 32 (.int .u8) ++ [.int .i64] ++ List.replicate 32 (.int .u8)
def hkd : List Kd := [.int .i64, .int .u64] ++ List.replicate 32 (.int .u8) ++ [.int .i64, .bool, .int .u64] ++ List.replicate 16 (.int .u8) ++ [.slice] ++ List.replicate 6 (.int .u64) ++ List.replicate 32 (.int .u8) ++ [.int .i64] ++ List.replicate 32 (.int .u8)
def tkd : List Kd := List.replicate 16 (.int .u8)
/-- A header by what it tells: its cells but for the tokens' slice, and the tokens. -/
structure Hd where
  c : List Value
  t : List (List Int)
def cI (l : List Value) (k : Nat) : Int := valI l[k]?
def cB (l : List Value) (k : Nat) : Bool := valB l[k]?
def Hd.w (h : Hd) : Int := cI h.c 0
def Hd.seq (h : Hd) : Int := cI h.c 1
def Hd.time (h : Hd) : Int := cI h.c 36
def Hd.know (h : Hd) (k : Nat) : Int := cI h.c (54 + k)
/-- The numbers by which the first engine tells a header. -/
def Hd.pt (h : Hd) : Ex.Pt := ⟨fun k => if k < 53 then cI h.c k else if k = 55 then h.t.length else if k < 57 then 0 else cI h.c (k - 3), fun k => cB h.c k⟩
def SortedT (T : List (List Int)) : Prop := ∀ i, i + 1 < T.length → lex (T.getD i []) (T.getD (i + 1) []) < 0
open Classical in
noncomputable def Hd.form (h : Hd) : Bool :=
  !(Ex.bev (en h.pt default) ePL) && Ex.bev (en h.pt default) eKN && !(Ex.bev (en h.pt default) eKB) && Ex.bev (en h.pt default) eFI && !(Ex.bev (en h.pt default) eL8) && decide (SortedT h.t) && Ex.bev (en h.pt default) eBR && Ex.bev (en h.pt default) eCT
/-- A row reads as a header. -/
structure IsHd (R : Hl) (row : List Value) (h : Hd) : Prop where
  ok : rowOK row hkd
  size : -9223372036854775808 ≤ cI row 92 ∧ cI row 92 < 9223372036854775808
  core : h.c = row.set 53 (.bool false)
  tok : RdRows R (row.getD 53 (.bool false)) tkd (h.t.map bys)
  byte : ∀ t ∈ h.t, t.length = 16 ∧ ∀ b ∈ t, 0 ≤ b ∧ b < 256
  few : h.t.length ≤ 20
theorem rdRows_mono {R R' : Hl} {v : Value} {ks : List Kd} {rows : List (List Value)} (h : RdRows R v ks rows) (hl : R.le R') : RdRows R' v ks rows := by
  obtain ⟨x, y, c, e, hy, h⟩ := h
  refine ⟨x, y, c, e, hy, h.imp id fun ⟨hx, h⟩ => ⟨hx, fun i row hr => ⟨(h i row hr).1, fun j u hu => ?_⟩⟩⟩
  have hc := (h i row hr).2 j u hu
  unfold Hl.cell at hc ⊢
  cases hR : R x.toNat with
  | none => rw [hR] at hc; cases hc
  | some o => rw [hl _ _ hR]; rw [hR] at hc; exact hc
theorem IsHd.mono {R R' : Hl} {row : List Value} {h : Hd} (x : IsHd R row h) (hl : R.le R') : IsHd R' row h := ⟨x.ok, x.size, x.core, rdRows_mono x.tok hl, x.byte, x.few⟩
theorem IsHd.uniq {R : Hl} {row : List Value} {h h' : Hd} (x : IsHd R row h) (y : IsHd R row h') : h = h' := by
  obtain ⟨c, t⟩ := h
  obtain ⟨c', t'⟩ := h'
  have e1 : c = c' := x.core.trans y.core.symm
  have e2 := x.tok.uniq y.tok
  have e3 : t = t' := by
    have inj : ∀ {a b : List (List Int)}, a.map bys = b.map bys → a = b := by
      intro a
      induction a with
      | nil => intro b h; cases b with
        | nil => rfl
        | cons _ _ => cases h
      | cons u a ih => intro b h; cases b with
        | nil => cases h
        | cons v b =>
          simp only [List.map_cons, List.cons.injEq] at h
          rw [bys_inj h.1, ih h.2]
    exact inj e2
  rw [e1, e3]

/-! ### Rows and numbers -/
def hA : List Ck := [.int .i64, .int .u64] ++ List.replicate 32 (.int .u8) ++ [.int .i64, .bool, .int .u64] ++ List.replicate 16 (.int .u8)
def hB : List Ck := List.replicate 6 (.int .u64) ++ List.replicate 32 (.int .u8) ++ [.int .i64] ++ List.replicate 32 (.int .u8)
def hk2 : List Ck := hA ++ (.sl :: hB)
theorem ck_get : ∀ (ks : List Ck) (n j : Nat), (∀ k ∈ ks, k.len = 1) → (Sx.ckCVs n ks)[j]? = (ks[j]?).map fun k => k.cv (n + j)
  | [], n, j, _ => by simp [Sx.ckCVs]
  | k :: ks, n, 0, _ => by simp [Sx.ckCVs]
  | k :: ks, n, j + 1, h => by
    simp only [Sx.ckCVs, List.getElem?_cons_succ]
    rw [ck_get ks _ j fun x hx => h x (List.mem_cons_of_mem _ hx), h k (List.mem_cons_self ..), show n + 1 + j = n + (j + 1) by omega]
theorem ck_append : ∀ (a b : List Ck) (n : Nat), Sx.ckCVs n (a ++ b) = Sx.ckCVs n a ++ Sx.ckCVs (n + ckLen a) b
  | [], b, n => by simp [Sx.ckCVs, ckLen]
  | k :: a, b, n => by
    simp only [List.cons_append, Sx.ckCVs, ck_append a b]
    rw [show n + k.len + ckLen a = n + ckLen (k :: a) by simp [ckLen]; omega]
def isI : Option Ck → Bool | some (.int _) => true | _ => false
theorem hA_len1 : ∀ k ∈ hA, k.len = 1 := by decide
theorem hB_len1 : ∀ k ∈ hB, k.len = 1 := by decide
theorem hA_int : ∀ j, j < 53 → j ≠ 35 → isI hA[j]? = true := by decide
theorem hB_int : ∀ j, j < 71 → isI hB[j]? = true := by decide
def rowQ (q : Env) : List Value := (Sx.ckCVs 0 hk2).map (CV.ev q)
theorem rowQ_eq (q : Env) : rowQ q = (Sx.ckCVs 0 hA).map (CV.ev q) ++ (.slice (slP (q.i 53) (q.i 54)) (q.i 55).toNat (q.i 56).toNat :: (Sx.ckCVs 57 hB).map (CV.ev q)) := by
  unfold rowQ hk2
  rw [ck_append, List.map_append]
  rfl
theorem hA_length (q : Env) : ((Sx.ckCVs 0 hA).map (CV.ev q)).length = 53 := rfl
theorem rowQ_lo {q : Env} {j : Nat} (h : j < 53) (h35 : j ≠ 35) : cI (rowQ q) j = q.i j := by
  have hi := hA_int j h h35
  unfold cI
  rw [rowQ_eq, List.getElem?_append_left (by rw [hA_length]; exact h), List.getElem?_map, ck_get _ _ _ hA_len1]
  cases hk : hA[j]? with
  | none => rw [hk] at hi; cases hi
  | some k =>
    rw [hk] at hi
    cases k <;> simp [isI] at hi
    simp [Ck.cv, CV.ev, valI, iev_var]
theorem rowQ_hi {q : Env} {j : Nat} (h : 54 ≤ j) (h2 : j < 125) : cI (rowQ q) j = q.i (j + 3) := by
  obtain ⟨i, rfl⟩ : ∃ i, j = 54 + i := ⟨j - 54, by omega⟩
  have hi := hB_int i (by omega)
  unfold cI
  rw [rowQ_eq, List.getElem?_append_right (by rw [hA_length]; omega), hA_length, show 54 + i - 53 = i + 1 by omega, List.getElem?_cons_succ, List.getElem?_map, ck_get _ _ _ hB_len1]
  cases hk : hB[i]? with
  | none => rw [hk] at hi; cases hi
  | some k =>
    rw [hk] at hi
    cases k <;> simp [isI] at hi
    simp [Ck.cv, CV.ev, valI, iev_var]
    congr 1; omega
theorem rowQ_bool (q : Env) : cB (rowQ q) 35 = q.b 35 := rfl
theorem rowQ_sl (q : Env) : (rowQ q).getD 53 (.bool false) = .slice (slP (q.i 53) (q.i 54)) (q.i 55).toNat (q.i 56).toNat := rfl
theorem unp_eq : ∀ n, Ex.unp n = Sx.unp n
  | 0 => rfl
  | n + 1 => by
    unfold Ex.unp Sx.unp
    rw [unp_eq n]
    rcases Sx.unp n with ⟨a, b⟩
    cases a <;> rfl
theorem slP_eq (x y : Int) : Ex.slP x y = slP x y := by
  unfold Ex.slP slP
  rw [unp_eq]
def ofEx : Ex.Ck → Ck | .int k => .int k | .bool => .bool | .sl => .sl
theorem ck_ex (q : Env) : ∀ (ks : List Ex.Ck) (n : Nat), (Sx.ckCVs n (ks.map ofEx)).map (CV.ev q) = Ex.ckVals ⟨q.i, q.b⟩ n ks
  | [], n => rfl
  | k :: ks, n => by
    have ih := ck_ex q ks
    cases k with
    | int k => simp only [List.map_cons, ofEx, Sx.ckCVs, Ex.ckVals, ih]; rfl
    | bool => simp only [List.map_cons, ofEx, Sx.ckCVs, Ex.ckVals, ih]; rfl
    | sl =>
      simp only [List.map_cons, ofEx, Sx.ckCVs, Ex.ckVals, ih, Ex.Ck.val, slP_eq]
      rfl
theorem rowQ_pt (q : Env) : [Value.agg (rowQ q).toArray] = Ex.swVals ⟨q.i, q.b⟩ 0 [.agg hk] := by
  have e : hk2 = hk.map ofEx := rfl
  unfold rowQ
  rw [e, ck_ex]; rfl
theorem row_env {row : List Value} (h : rowOK row hkd) : ∃ q : Env, row = rowQ q ∧ 0 ≤ q.i 54 ∧ 0 ≤ q.i 55 ∧ 0 ≤ q.i 56 := by
  obtain ⟨q, _, hn, e⟩ := row_rep hk2 0 row ⟨fun _ => 0, fun _ => false, fun _ => .empty, fun _ => .tuple #[], fun _ => Hl.none⟩ h
  have hn : ckNormsW 0 (hA ++ (.sl :: hB)) q := hn
  have hs : ∀ (a b : List Ck) (n : Nat), ckNormsW n (a ++ b) q → ckNormsW (n + ckLen a) b q := by
    intro a
    induction a with
    | nil => intro b n h; simpa [ckLen] using h
    | cons k a ih =>
      intro b n h
      have := ih b (n + k.len) h.2
      rw [show n + k.len + ckLen a = n + ckLen (k :: a) by simp [ckLen]; omega] at this
      exact this
  have hs := (hs hA (.sl :: hB) 0 hn).1
  exact ⟨q, e.symm, hs.2.1, hs.2.2.1, hs.2.2.2⟩
theorem slP_lo {a b x y : Int} (hx : 0 ≤ x) (h : slP a b = slP x y) : 0 ≤ a := by
  rcases Int.lt_or_le a 0 with ha | ha
  · exfalso
    rw [slP_pos hx] at h
    unfold slP at h
    rw [if_neg (by omega)] at h
    split at h
    · cases h
    · simp only [Option.some.injEq, Addr.mk.injEq] at h
      obtain ⟨_, _, h⟩ := h
      cases h
  · exact ha
theorem core_I {row : List Value} {k : Nat} (h : k ≠ 53) : cI (row.set 53 (.bool false)) k = cI row k := by
  unfold cI; rw [List.getElem?_set_ne (by omega)]
theorem core_B {row : List Value} {k : Nat} (h : k ≠ 53) : cB (row.set 53 (.bool false)) k = cB row k := by
  unfold cB; rw [List.getElem?_set_ne (by omega)]
theorem dPL : ePL.dry (fun k => k != 35 && k != 53 && k != 54 && k != 56 && decide (k < 128)) (fun k => k == 35) = true := by kernel_rfl
theorem dKN : eKN.dry (fun k => k != 35 && k != 53 && k != 54 && k != 56 && decide (k < 128)) (fun k => k == 35) = true := by kernel_rfl
theorem dKB : eKB.dry (fun k => k != 35 && k != 53 && k != 54 && k != 56 && decide (k < 128)) (fun k => k == 35) = true := by kernel_rfl
theorem dFI : eFI.dry (fun k => k != 35 && k != 53 && k != 54 && k != 56 && decide (k < 128)) (fun k => k == 35) = true := by kernel_rfl
theorem dBR : eBR.dry (fun k => k != 35 && k != 53 && k != 54 && k != 56 && decide (k < 128)) (fun k => k == 35) = true := by kernel_rfl
theorem dCT : eCT.dry (fun k => k != 35 && k != 53 && k != 54 && k != 56 && decide (k < 128)) (fun k => k == 35) = true := by kernel_rfl
/-- What entry.Formed tells of a header that lies anywhere. -/
theorem dL8 : eL8.dry (fun k => k != 35 && k != 53 && k != 54 && k != 56 && decide (k < 128)) (fun k => k == 35) = true := by kernel_rfl
theorem nums_of {f : Nat → Int} {t : List Int} (h : t.length = 16) (hf : ∀ j, j < 16 → t[j]? = some (f j)) : nums ⟨f, fun _ => false⟩ 0 = t := by
  have e : nums ⟨f, fun _ => false⟩ 0 = (List.range 16).map f := rfl
  rw [e]
  apply List.ext_getElem?
  intro j
  rcases Nat.lt_or_ge j 16 with hj | hj
  · rw [List.getElem?_map, List.getElem?_range hj, hf j hj]; rfl
  · rw [List.getElem?_eq_none (by simpa using hj), List.getElem?_eq_none (by omega)]
open Classical in
theorem form_at {W : World} {q : Env} {h : Hd} (x : IsHd (Hl.all W) (rowQ q) h) (n54 : 0 ≤ q.i 54) (n55 : 0 ≤ q.i 55) : FormN ⟨q.i, q.b⟩ W ∧ formB ⟨q.i, q.b⟩ W = h.form := by
  have htok := x.tok
  rw [rowQ_sl] at htok
  obtain ⟨tx, ty, tc, te, hty, hrows⟩ := htok
  simp only [Value.slice.injEq, List.length_map] at te
  obtain ⟨te1, te2, _⟩ := te
  have e55 : q.i 55 = h.t.length := by omega
  have few := x.few
  have blk : 0 < h.t.length → q.i 53 = tx ∧ q.i 54 = ty ∧ 0 ≤ tx := by
    intro hp
    rcases hrows with hr | ⟨hx, _⟩
    · rw [List.map_eq_nil_iff] at hr; rw [hr] at hp; cases hp
    · have h53 := slP_lo hx te1
      rw [slP_pos h53, slP_pos hx] at te1
      simp only [Option.some.injEq, Addr.mk.injEq, and_true] at te1
      omega
  have cell : ∀ (i : Nat) t, h.t[i]? = some t → ∀ j, j < 16 → ∃ z, t[j]? = some z ∧ (0 ≤ z ∧ z < 256) ∧ Ex.romCell W (q.i 53) (q.i 54 + (i : Int) * 16) j = some (.int .u8 z) := by
    intro i t ht j hj
    have hil : i < h.t.length := (List.getElem?_eq_some_iff.1 ht).1
    obtain ⟨b1, b2, b3⟩ := blk (by omega)
    obtain ⟨l16, hb⟩ := x.byte t (List.mem_of_getElem? ht)
    have hz : t[j]? = some t[j] := List.getElem?_eq_getElem (by omega)
    refine ⟨t[j], hz, hb _ (List.getElem_mem _), ?_⟩
    rcases hrows with hr | ⟨_, hr⟩
    · rw [List.map_eq_nil_iff] at hr; rw [hr] at hil; cases hil
    · have hc := (hr i (bys t) (by rw [List.getElem?_map, ht]; rfl)).2 j (.int .u8 t[j]) (by rw [bys_get, hz]; rfl)
      have hc := Hl.sub_cell (Hl.all_sub W) hc
      unfold Ex.romCell
      rw [b1, b2, ← hc]
      have l : tkd.length = 16 := rfl
      rw [l]
      congr 2
      omega
  have tokI : ∀ (i : Nat) t, h.t[i]? = some t → tokAt W (q.i 53) (q.i 54) (i : Int) = t := by
    intro i t ht
    unfold tokAt
    refine nums_of (x.byte t (List.mem_of_getElem? ht)).1 fun j hj => ?_
    obtain ⟨z, hz, _, hc⟩ := cell i t ht j hj
    rw [hz, hc]; rfl
  have hsort : SortedAt W (q.i 53) (q.i 54) (q.i 55) ↔ SortedT h.t := by
    have key : ∀ i : Nat, i + 1 < h.t.length → lex (tokAt W (q.i 53) (q.i 54) (i : Int)) (tokAt W (q.i 53) (q.i 54) ((i : Int) + 1)) = lex (h.t.getD i []) (h.t.getD (i + 1) []) := by
      intro i hi
      have e1 : h.t[i]? = some h.t[i] := List.getElem?_eq_getElem (by omega)
      have e2 : h.t[i + 1]? = some h.t[i + 1] := List.getElem?_eq_getElem hi
      have k2 := tokI (i + 1) _ e2
      have k2 : tokAt W (q.i 53) (q.i 54) ((i : Int) + 1) = h.t[i + 1] := k2
      rw [tokI i _ e1, k2, List.getD_eq_getElem?_getD, List.getD_eq_getElem?_getD, e1, e2]; rfl
    constructor
    · intro hs i hi
      rw [← key i hi]
      exact hs i (by omega) (by omega)
    · intro hs i h0 h1
      obtain ⟨k, rfl⟩ := Int.eq_ofNat_of_zero_le h0
      rw [key k (by omega)]
      exact hs k (by omega)
  have hi : ∀ k, (k != 35 && k != 53 && k != 54 && k != 56 && decide (k < 128)) = true → (en h.pt default).i k = (en ⟨q.i, q.b⟩ W).i k := by
    intro k hk
    simp only [Bool.and_eq_true, bne_iff_ne, ne_eq, decide_eq_true_eq] at hk
    obtain ⟨⟨⟨⟨h35, h53⟩, h54⟩, h56⟩, h128⟩ := hk
    show (if k < 53 then cI h.c k else if k = 55 then (h.t.length : Int) else if k < 57 then 0 else cI h.c (k - 3)) = q.i k
    rw [x.core]
    split
    · rw [core_I (by omega), rowQ_lo (by omega) h35]
    split
    · rename_i _ e; subst e; exact e55.symm
    rw [if_neg (by omega), core_I (by omega), rowQ_hi (by omega) (by omega)]
    congr 1; omega
  have hb : ∀ k, (k == 35) = true → (en h.pt default).b k = (en ⟨q.i, q.b⟩ W).b k := by
    intro k hk
    have hk : k = 35 := by simpa using hk
    subst hk
    show cB h.c 35 = q.b 35
    rw [x.core, core_B (by decide), rowQ_bool]
  have D := fun e he => (Ex.dry_ev hi hb e he).2
  refine ⟨⟨⟨n54, ⟨n55, by show q.i 55 ≤ _; omega⟩, fun hp => ?_, fun i h0 h1 j hj => ?_⟩, ?_⟩, ?_⟩
  · have hp : 0 < q.i 55 := hp
    obtain ⟨b1, _, b3⟩ := blk (by omega)
    show 0 ≤ q.i 53
    omega
  · have h1 : i < q.i 55 := h1
    obtain ⟨k, rfl⟩ := Int.eq_ofNat_of_zero_le h0
    obtain ⟨z, _, hz, hc⟩ := cell k _ (List.getElem?_eq_getElem (show k < h.t.length by omega)) j hj
    have hc : Ex.romCell W ((tp ⟨q.i, q.b⟩ W).i 0) ((tp ⟨q.i, q.b⟩ W).i 1 + (k : Int) * 16) j = some (.int .u8 z) := hc
    rw [hc]
    exact ⟨rfl, hz⟩
  · have := x.size
    rw [rowQ_hi (by decide) (by decide)] at this
    exact this
  · unfold formB Hd.form
    rw [D _ dPL, D _ dKN, D _ dKB, D _ dFI, D _ dL8, D _ dBR, D _ dCT]
    have es : (sortedF (tp ⟨q.i, q.b⟩ W) W).b 0 = decide (SortedT h.t) := by
      show decide (SortedAt W (q.i 53) (q.i 54) (q.i 55)) = _
      exact decide_eq_decide.2 hsort
    rw [es]
/-- entry.Formed, as a contract. -/
noncomputable def eFormS : Sx.Spec where
  fn := 24
  own := []
  rd := [100]
  res := [.one .bool]
  pre := fun xs Hs Rs => ∃ row h R, xs = [.agg row.toArray] ∧ Rs = [R] ∧ IsHd R row h
  post := fun xs Hs Rs v Hs' F => ∃ row h R, xs = [.agg row.toArray] ∧ Rs = [R] ∧ IsHd R row h ∧ v = .bool h.form
theorem formed_any (p : Ex.Pt) (W : World) (hN : FormN p W) : Calls Try.prog 24 (Ex.swVals p 0 [.agg hk]).toArray W fun e w' => e = .returned (.bool (formB p W)) ∧ RowKit.Below W.heap.size W w' := by
  have key := Ex.funE_sound frmΓ_ok fE_eq id (en p W) W (fun _ _ h => h) (needE hN)
  rw [hk_args] at key
  exact key.mono fun e w' h => ⟨h.1.trans (congrArg (fun b => Ending.returned (Value.bool b)) (lawE hN)), h.2⟩
theorem eFormS_ok : eFormS.OK Try.prog := by
  refine calls_spec rfl fun w xs Rs hs ⟨row, h, R, e1, e2, x⟩ => ?_
  subst e1; subst e2
  obtain ⟨q, rfl, n54, n55, _⟩ := row_env x.ok
  have hx : IsHd (Hl.all w) (rowQ q) h := x.mono fun k o ho => hs R (by simp) k o ho
  obtain ⟨hN, hf⟩ := form_at hx n54 n55
  refine ⟨.bool h.form, ⟨⟨fun _ => 0, fun _ => h.form, fun _ => .empty, fun _ => .tuple #[], fun _ => Hl.none⟩, rfl, trivial, trivial⟩, ?_, _, h, R, rfl, rfl, x, rfl⟩
  rw [rowQ_pt, ← hf]
  exact formed_any _ w hN
end Go.Proofs.Ytnlejejjeilpoaa.V2
