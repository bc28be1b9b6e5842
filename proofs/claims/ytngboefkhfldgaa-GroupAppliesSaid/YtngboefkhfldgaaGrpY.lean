/- Layer 17: GroupFolds answers true, of any steps. No condition. -/
import Derived.Test.YtngboefkhfldgaaGrpX
set_option linter.unusedSimpArgs false
set_option linter.unusedVariables false
set_option linter.constructorNameAsVariable false
namespace Go.Proofs.Ytngboefkhfldgaa.V2
open Go Go.Sx

def skd : List Kd := [.int .i64, .int .i64, .int .i64, .int .u64]
def awakeS2 : Sx.Spec := pureS 8 [] [.one .bool] (fun _ => True) (fun _ => .bool true)
theorem awakeS2_ok : awakeS2.OK Try.prog := by
  refine pure_of_calls (fun q _ _ => shape_bool _) (fun q w _ _ => ?_)
  exact (Ex.funE_sound (fun s hs => by cases hs) awake17 id ⟨fun _ => 0, fun _ => false, w⟩ w (fun _ _ h => h) trivial).mono fun e w' h => ⟨h.1.trans rfl, h.2⟩

/-! ### Headers that are made -/
theorem hdr_ok (x : Int) : HdrOK (hdrV x) Hl.none := by
  refine ⟨{ heap := #[], tape := fun _ _ => 0, drawn := 0, os := default, output := #[] }, ⟨fun j => match j with | 0 => x | 1 => 1 | 53 => -1 | 95 => 80 | _ => 0, fun j => match j with | 35 => true | _ => false⟩, ?_, rfl, ?_⟩
  · funext k; simp [Hl.none, Hl.all]
  · refine ⟨⟨Int.le_refl 0, ⟨Int.le_refl 0, (by decide : (0 : Int) ≤ 4611686018427387904)⟩, fun h => absurd h (by decide : ¬ (0 : Int) < 0), fun i h0 h1 => ?_⟩, (by decide : (-9223372036854775808 : Int) ≤ 80), (by decide : (80 : Int) < 9223372036854775808)⟩
    have h1 : i < 0 := h1
    omega
theorem made_pre (g : Grp) (a b c d : Int) : madeS.pre [gV g, .agg #[.int .i64 a, .int .i64 b, .int .i64 c, .int .u64 d]] [] [] :=
  ⟨⟨fun j => match j with | 0 => g.owner | 1 => g.epoch | 14 => g.cut 0 | 15 => g.cut 1 | 16 => g.cut 2 | 17 => g.cut 3 | 18 => g.cut 4 | 19 => g.cut 5 | 20 => g.seen | 21 => a | 22 => b | 23 => c | 24 => d | _ => 0,
    fun j => match j with | 2 => g.mem 0 | 3 => g.mem 1 | 4 => g.mem 2 | 5 => g.mem 3 | 6 => g.mem 4 | 7 => g.mem 5 | 8 => g.gone 0 | 9 => g.gone 1 | 10 => g.gone 2 | 11 => g.gone 3 | 12 => g.gone 4 | 13 => g.gone 5 | _ => false,
    fun _ => .empty, fun _ => .tuple #[], fun _ => Hl.none⟩, rfl⟩

/-! ### One by one -/
def seqInv (k : Nat) (over : Bool) (g : Grp) (n : Nat) (H C : List (List Value)) : Prop :=
  (over = false → n = H.length ∧ H.length ≤ k ∧ ∀ H' C', foldR g0 (H ++ H') (C ++ C') 0 = foldR g H' C' n) ∧
  (over = true → ∀ H' C', foldR g0 (H ++ H') ((C ++ C').take k) 0 = (g, n))
section
variable {k : Nat} {g : Grp} {n : Nat} {H C : List (List Value)} {h c : List Value}
theorem seq_over (hs : seqInv k true g n H C) : seqInv k true g n (H ++ [h]) (C ++ [c]) :=
  ⟨fun x => (nomatch x), fun _ H' C' => by rw [List.append_assoc, List.append_assoc]; exact hs.2 rfl _ _⟩
theorem seq_cut (hl : C.length = H.length) (hs : seqInv k false g n H C) (hb : (stepR g h c).2 ≠ 0 ∨ k ≤ H.length) : seqInv k true g n (H ++ [h]) (C ++ [c]) := by
  refine ⟨fun x => (nomatch x), fun _ H' C' => ?_⟩
  obtain ⟨hn, hk, hf⟩ := hs.1 rfl
  rw [List.append_assoc, List.append_assoc, List.take_append, List.take_of_length_le (by omega : C.length ≤ k), hf]
  rcases Nat.lt_or_ge H.length k with hlt | hge
  · obtain ⟨m, hm⟩ : ∃ m, k - C.length = m + 1 := ⟨k - C.length - 1, by omega⟩
    rw [hm]
    show (if (stepR g h c).2 = 0 then _ else _) = _
    rw [if_neg (hb.resolve_right (by omega))]
  · rw [show k - C.length = 0 by omega]; rfl
theorem seq_on (hl : C.length = H.length) (hs : seqInv k false g n H C) (h0 : (stepR g h c).2 = 0) (hlt : H.length < k) : seqInv k false (stepR g h c).1 (n + 1) (H ++ [h]) (C ++ [c]) := by
  refine ⟨fun _ => ?_, fun x => (nomatch x)⟩
  obtain ⟨hn, hk, hf⟩ := hs.1 rfl
  refine ⟨by simp [hn], by simp; omega, fun H' C' => ?_⟩
  rw [List.append_assoc, List.append_assoc, hf]
  exact if_pos h0
theorem seq_end {b : Bool} (hl : C.length = H.length) (hs : seqInv k b g n H C) : foldR g0 H (C.take (min H.length k)) 0 = (g, n) := by
  cases b with
  | false =>
    obtain ⟨hn, hk, hf⟩ := hs.1 rfl
    have := hf [] []
    rw [List.append_nil, List.append_nil] at this
    rw [Nat.min_eq_left hk, List.take_of_length_le (by omega), this]; rfl
  | true =>
    have := hs.2 rfl [] []
    rw [List.append_nil, List.append_nil] at this
    rw [← hl, Nat.min_comm, ← List.take_eq_take_min, this]
end
def FI (L : List (List Value)) (k : Nat) (a10 a11 a12 a13 a14 a15 a16 a18 : Int) (b17 : Bool) (h40 h41 : Hl) (gv : Value) : Prop := ∃ (g : Grp) (H C : List (List Value)) (n : Nat),
  a18 = H.length ∧ H.length ≤ L.length ∧ C.length = H.length ∧ a11 = H.length ∧ a14 = H.length ∧ -1 ≤ a10 ∧ 0 ≤ a12 ∧ -1 ≤ a13 ∧ 0 ≤ a15 ∧
  OwR h40 46 hkd (.slice (slP a10 0) a11.toNat a12.toNat) H ∧ OwR h41 50 ckd (.slice (slP a13 0) a14.toNat a15.toNat) C ∧ (∀ h ∈ H, HdrOK (rowV h) Hl.none) ∧ gv = gV g ∧ a16 = n ∧ seqInv k b17 g n H C
def foldsInv (L : List (List Value)) (k : Nat) (_ : Nat) (q : Env) : Prop := FI L k (q.i 10) (q.i 11) (q.i 12) (q.i 13) (q.i 14) (q.i 15) (q.i 16) (q.i 18) (q.b 17) (q.h 40) (q.h 41) ((SV.agg (Sx.ckCVs 19 gk2)).ev q)

def eM : E := .ite (.lt (.wrap .i64 (.rem (.var 4) (.lit 50))) (.var 14)) (.wrap .i64 (.rem (.var 4) (.lit 50))) (.var 14)
def eGrp : E := (.and (.eq (.var 42) (.var 19)) (.and (.eq (.var 43) (.var 20)) (.and (.and (.beq (.bvar 44) (.bvar 21)) (.and (.beq (.bvar 45) (.bvar 22)) (.and (.beq (.bvar 46) (.bvar 23)) (.and (.beq (.bvar 47) (.bvar 24)) (.and (.beq (.bvar 48) (.bvar 25)) (.beq (.bvar 49) (.bvar 26))))))) (.and (.and (.beq (.bvar 50) (.bvar 27)) (.and (.beq (.bvar 51) (.bvar 28)) (.and (.beq (.bvar 52) (.bvar 29)) (.and (.beq (.bvar 53) (.bvar 30)) (.and (.beq (.bvar 54) (.bvar 31)) (.beq (.bvar 55) (.bvar 32))))))) (.and (.and (.eq (.var 56) (.var 33)) (.and (.eq (.var 57) (.var 34)) (.and (.eq (.var 58) (.var 35)) (.and (.eq (.var 59) (.var 36)) (.and (.eq (.var 60) (.var 37)) (.eq (.var 61) (.var 38))))))) (.eq (.var 62) (.var 39)))))))
theorem eq_group {q : Env} (h : (SV.agg (Sx.ckCVs 42 gk2)).ev q = (SV.agg (Sx.ckCVs 19 gk2)).ev q) : bev q eGrp = true := by
  have h : (Sx.ckCVs 42 gk2).map (CV.ev q) = (Sx.ckCVs 19 gk2).map (CV.ev q) := congrArg Array.toList (Value.agg.inj h)
  have hi : ∀ j : Nat, valI ((Sx.ckCVs 42 gk2).map (CV.ev q))[j]? = valI ((Sx.ckCVs 19 gk2).map (CV.ev q))[j]? := fun j => by rw [h]
  have hb : ∀ j : Nat, valB ((Sx.ckCVs 42 gk2).map (CV.ev q))[j]? = valB ((Sx.ckCVs 19 gk2).map (CV.ev q))[j]? := fun j => by rw [h]
  have i0 : q.i 42 = q.i 19 := hi 0
  have i1 : q.i 43 = q.i 20 := hi 1
  have b2 : q.b 44 = q.b 21 := hb 2
  have b3 : q.b 45 = q.b 22 := hb 3
  have b4 : q.b 46 = q.b 23 := hb 4
  have b5 : q.b 47 = q.b 24 := hb 5
  have b6 : q.b 48 = q.b 25 := hb 6
  have b7 : q.b 49 = q.b 26 := hb 7
  have b8 : q.b 50 = q.b 27 := hb 8
  have b9 : q.b 51 = q.b 28 := hb 9
  have b10 : q.b 52 = q.b 29 := hb 10
  have b11 : q.b 53 = q.b 30 := hb 11
  have b12 : q.b 54 = q.b 31 := hb 12
  have b13 : q.b 55 = q.b 32 := hb 13
  have i14 : q.i 56 = q.i 33 := hi 14
  have i15 : q.i 57 = q.i 34 := hi 15
  have i16 : q.i 58 = q.i 35 := hi 16
  have i17 : q.i 59 = q.i 36 := hi 17
  have i18 : q.i 60 = q.i 37 := hi 18
  have i19 : q.i 61 = q.i 38 := hi 19
  have i20 : q.i 62 = q.i 39 := hi 20
  simp only [eGrp, bT_and, bT_eq, bT_beq, bT_bvar, iev_var, i0, i1, b2, b3, b4, b5, b6, b7, b8, b9, b10, b11, b12, b13, i14, i15, i16, i17, i18, i19, i20, and_self]

noncomputable def folΓ : List Sx.Spec := [awakeS2, madeS, applyS2, foldS]
theorem folΓ_ok : ∀ t ∈ folΓ, t.OK Try.prog := by
  intro t ht
  simp only [folΓ, List.mem_cons, List.mem_nil_iff, or_false] at ht
  rcases ht with rfl | rfl | rfl | rfl
  · exact awakeS2_ok
  · exact madeS_ok
  · exact applyS2_ok
  · exact foldS_ok
def foldsS : Sx.Spec where
  fn := 7
  own := []
  rd := [0]
  res := [.one .bool]
  pre := fun xs Hs Rs => ∃ v cut R L, xs = [v, .int .u8 cut] ∧ Rs = [R] ∧ RdRows R v skd L ∧ 0 ≤ cut ∧ cut < 256
  post := fun xs Hs Rs v Hs' F => v = .bool true
set_option maxHeartbeats 4000000 in
def foldsNd : Nd := .and (.pre (.call 0 6 [] [] [])) (.ext (.call 0 6 [] [] []) (.and (.imp (.bvar 6) (.and (.e (.le (.lit 0) (.var 2))) (.and (.imp (.lt (.lit 40) (.var 2)) (.and (.pre (.call 0 7 [] [] [])) (.ext (.call 0 7 [] [] []) (.post [.ro 5 [.var 0] false] (.sv (.one (.bool (.bvar 7)))))))) (.imp (.not (.lt (.lit 40) (.var 2))) (.ext (.alloc 7) (.and (.inv 0 [⟨10, 0, .int .i64 (.lit (-1))⟩, ⟨11, 0, .int .i64 (.lit 0)⟩, ⟨12, 0, .int .i64 (.lit 0)⟩, ⟨13, 0, .int .i64 (.lit (-1))⟩, ⟨14, 0, .int .i64 (.lit 0)⟩, ⟨15, 0, .int .i64 (.lit 0)⟩, ⟨16, 0, .int .i64 (.lit 0)⟩, ⟨17, 1, .bool .ff⟩, ⟨18, 0, .int .i64 (.lit 0)⟩, ⟨19, 0, .int .i64 (.lit 0)⟩, ⟨20, 0, .int .i64 (.lit 0)⟩, ⟨21, 1, .bool .ff⟩, ⟨22, 1, .bool .ff⟩, ⟨23, 1, .bool .ff⟩, ⟨24, 1, .bool .ff⟩, ⟨25, 1, .bool .ff⟩, ⟨26, 1, .bool .ff⟩, ⟨27, 1, .bool .ff⟩, ⟨28, 1, .bool .ff⟩, ⟨29, 1, .bool .ff⟩, ⟨30, 1, .bool .ff⟩, ⟨31, 1, .bool .ff⟩, ⟨32, 1, .bool .ff⟩, ⟨33, 0, .int .i64 (.lit 0)⟩, ⟨34, 0, .int .i64 (.lit 0)⟩, ⟨35, 0, .int .i64 (.lit 0)⟩, ⟨36, 0, .int .i64 (.lit 0)⟩, ⟨37, 0, .int .i64 (.lit 0)⟩, ⟨38, 0, .int .i64 (.lit 0)⟩, ⟨39, 0, .int .i64 (.lit 0)⟩] [(40, none), (41, none)]) (.havoc 0 0 8 (.and (.imp (.lt (.var 18) (.var 2)) (.and (.e (.le (.lit 0) (.var 0))) (.and (.e (.le (.lit 0) (.var 1))) (.and (.e (.le (.lit 0) (.var 18))) (.and (.e (.his 5 (.var 0) (.add (.var 1) (.mul (.var 18) (.lit 4))) 0 (.int .i64))) (.and (.e (.his 5 (.var 0) (.add (.var 1) (.mul (.var 18) (.lit 4))) 1 (.int .i64))) (.and (.e (.his 5 (.var 0) (.add (.var 1) (.mul (.var 18) (.lit 4))) 2 (.int .i64))) (.and (.e (.his 5 (.var 0) (.add (.var 1) (.mul (.var 18) (.lit 4))) 3 (.int .u64))) (.and (.pre (.call 1 42 [.sv (.agg (Sx.ckCVs 19 gk2)), .sv (.agg [.int .i64 (.hI 5 (.var 0) (.add (.var 1) (.mul (.var 18) (.lit 4))) 0), .int .i64 (.hI 5 (.var 0) (.add (.var 1) (.mul (.var 18) (.lit 4))) 1), .int .i64 (.hI 5 (.var 0) (.add (.var 1) (.mul (.var 18) (.lit 4))) 2), .int .u64 (.hI 5 (.var 0) (.add (.var 1) (.mul (.var 18) (.lit 4))) 3)])] [] [])) (.ext (.call 1 42 [.sv (.agg (Sx.ckCVs 19 gk2)), .sv (.agg [.int .i64 (.hI 5 (.var 0) (.add (.var 1) (.mul (.var 18) (.lit 4))) 0), .int .i64 (.hI 5 (.var 0) (.add (.var 1) (.mul (.var 18) (.lit 4))) 1), .int .i64 (.hI 5 (.var 0) (.add (.var 1) (.mul (.var 18) (.lit 4))) 2), .int .u64 (.hI 5 (.var 0) (.add (.var 1) (.mul (.var 18) (.lit 4))) 3)])] [] []) (.ext (.alloc 201) (.ext (.alloc 202) (.ext (.alloc 203) (.and (.pre (.app 204 46 125 232 (.sl (.var 10) (.lit 0) (.var 11) (.var 12)) (.var 11) (.hp 40 [] [.var 10] []) (.cvs (Sx.ckCVs 42 hk2) 1))) (.ext (.app 204 46 125 232 (.sl (.var 10) (.lit 0) (.var 11) (.var 12)) (.var 11) (.hp 40 [] [.var 10] []) (.cvs (Sx.ckCVs 42 hk2) 1)) (.ext (.alloc 206) (.and (.pre (.app 207 50 10 192 (.sl (.var 13) (.lit 0) (.var 14) (.var 15)) (.var 14) (.hp 41 [] [.var 13] []) (.cvs (Sx.ckCVs 170 ck2) 1))) (.ext (.app 207 50 10 192 (.sl (.var 13) (.lit 0) (.var 14) (.var 15)) (.var 14) (.hp 41 [] [.var 13] []) (.cvs (Sx.ckCVs 170 ck2) 1)) (.and (.pre (.call 2 209 [.sv (.agg (Sx.ckCVs 19 gk2)), .sv (.agg (Sx.ckCVs 42 hk2)), .sv (.agg (Sx.ckCVs 170 ck2))] [] [.dead])) (.ext (.call 2 209 [.sv (.agg (Sx.ckCVs 19 gk2)), .sv (.agg (Sx.ckCVs 42 hk2)), .sv (.agg (Sx.ckCVs 170 ck2))] [] [.dead]) (.ext (.alloc 231) (.and (.imp (.not (.bvar 17)) (.and (.imp (.eq (.var 230) (.lit 0)) (.and (.imp (.not (.le (.wrap .i64 (.rem (.var 4) (.lit 50))) (.var 18))) (.back 0 0 [⟨10, 0, .int .i64 (.var 204)⟩, ⟨11, 0, .int .i64 (.add (.var 11) (.lit 1))⟩, ⟨12, 0, .int .i64 (.var 205)⟩, ⟨13, 0, .int .i64 (.var 207)⟩, ⟨14, 0, .int .i64 (.add (.var 14) (.lit 1))⟩, ⟨15, 0, .int .i64 (.var 208)⟩, ⟨16, 0, .int .i64 (.wrap .i64 (.add (.var 16) (.lit 1)))⟩, ⟨17, 1, .bool (.le (.wrap .i64 (.rem (.var 4) (.lit 50))) (.var 18))⟩, ⟨18, 0, .int .i64 (.wrap .i64 (.add (.var 18) (.lit 1)))⟩, ⟨19, 0, .int .i64 (.var 209)⟩, ⟨20, 0, .int .i64 (.var 210)⟩, ⟨21, 1, .bool (.bvar 211)⟩, ⟨22, 1, .bool (.bvar 212)⟩, ⟨23, 1, .bool (.bvar 213)⟩, ⟨24, 1, .bool (.bvar 214)⟩, ⟨25, 1, .bool (.bvar 215)⟩, ⟨26, 1, .bool (.bvar 216)⟩, ⟨27, 1, .bool (.bvar 217)⟩, ⟨28, 1, .bool (.bvar 218)⟩, ⟨29, 1, .bool (.bvar 219)⟩, ⟨30, 1, .bool (.bvar 220)⟩, ⟨31, 1, .bool (.bvar 221)⟩, ⟨32, 1, .bool (.bvar 222)⟩, ⟨33, 0, .int .i64 (.var 223)⟩, ⟨34, 0, .int .i64 (.var 224)⟩, ⟨35, 0, .int .i64 (.var 225)⟩, ⟨36, 0, .int .i64 (.var 226)⟩, ⟨37, 0, .int .i64 (.var 227)⟩, ⟨38, 0, .int .i64 (.var 228)⟩, ⟨39, 0, .int .i64 (.var 229)⟩] [(40, some 204), (41, some 207)])) (.imp (.le (.wrap .i64 (.rem (.var 4) (.lit 50))) (.var 18)) (.back 0 0 [⟨10, 0, .int .i64 (.var 204)⟩, ⟨11, 0, .int .i64 (.add (.var 11) (.lit 1))⟩, ⟨12, 0, .int .i64 (.var 205)⟩, ⟨13, 0, .int .i64 (.var 207)⟩, ⟨14, 0, .int .i64 (.add (.var 14) (.lit 1))⟩, ⟨15, 0, .int .i64 (.var 208)⟩, ⟨16, 0, .int .i64 (.var 16)⟩, ⟨17, 1, .bool (.le (.wrap .i64 (.rem (.var 4) (.lit 50))) (.var 18))⟩, ⟨18, 0, .int .i64 (.wrap .i64 (.add (.var 18) (.lit 1)))⟩, ⟨19, 0, .int .i64 (.var 19)⟩, ⟨20, 0, .int .i64 (.var 20)⟩, ⟨21, 1, .bool (.bvar 21)⟩, ⟨22, 1, .bool (.bvar 22)⟩, ⟨23, 1, .bool (.bvar 23)⟩, ⟨24, 1, .bool (.bvar 24)⟩, ⟨25, 1, .bool (.bvar 25)⟩, ⟨26, 1, .bool (.bvar 26)⟩, ⟨27, 1, .bool (.bvar 27)⟩, ⟨28, 1, .bool (.bvar 28)⟩, ⟨29, 1, .bool (.bvar 29)⟩, ⟨30, 1, .bool (.bvar 30)⟩, ⟨31, 1, .bool (.bvar 31)⟩, ⟨32, 1, .bool (.bvar 32)⟩, ⟨33, 0, .int .i64 (.var 33)⟩, ⟨34, 0, .int .i64 (.var 34)⟩, ⟨35, 0, .int .i64 (.var 35)⟩, ⟨36, 0, .int .i64 (.var 36)⟩, ⟨37, 0, .int .i64 (.var 37)⟩, ⟨38, 0, .int .i64 (.var 38)⟩, ⟨39, 0, .int .i64 (.var 39)⟩] [(40, some 204), (41, some 207)])))) (.imp (.not (.eq (.var 230) (.lit 0))) (.back 0 0 [⟨10, 0, .int .i64 (.var 204)⟩, ⟨11, 0, .int .i64 (.add (.var 11) (.lit 1))⟩, ⟨12, 0, .int .i64 (.var 205)⟩, ⟨13, 0, .int .i64 (.var 207)⟩, ⟨14, 0, .int .i64 (.add (.var 14) (.lit 1))⟩, ⟨15, 0, .int .i64 (.var 208)⟩, ⟨16, 0, .int .i64 (.var 16)⟩, ⟨17, 1, .bool .tt⟩, ⟨18, 0, .int .i64 (.wrap .i64 (.add (.var 18) (.lit 1)))⟩, ⟨19, 0, .int .i64 (.var 19)⟩, ⟨20, 0, .int .i64 (.var 20)⟩, ⟨21, 1, .bool (.bvar 21)⟩, ⟨22, 1, .bool (.bvar 22)⟩, ⟨23, 1, .bool (.bvar 23)⟩, ⟨24, 1, .bool (.bvar 24)⟩, ⟨25, 1, .bool (.bvar 25)⟩, ⟨26, 1, .bool (.bvar 26)⟩, ⟨27, 1, .bool (.bvar 27)⟩, ⟨28, 1, .bool (.bvar 28)⟩, ⟨29, 1, .bool (.bvar 29)⟩, ⟨30, 1, .bool (.bvar 30)⟩, ⟨31, 1, .bool (.bvar 31)⟩, ⟨32, 1, .bool (.bvar 32)⟩, ⟨33, 0, .int .i64 (.var 33)⟩, ⟨34, 0, .int .i64 (.var 34)⟩, ⟨35, 0, .int .i64 (.var 35)⟩, ⟨36, 0, .int .i64 (.var 36)⟩, ⟨37, 0, .int .i64 (.var 37)⟩, ⟨38, 0, .int .i64 (.var 38)⟩, ⟨39, 0, .int .i64 (.var 39)⟩] [(40, some 204), (41, some 207)])))) (.imp (.bvar 17) (.back 0 0 [⟨10, 0, .int .i64 (.var 204)⟩, ⟨11, 0, .int .i64 (.add (.var 11) (.lit 1))⟩, ⟨12, 0, .int .i64 (.var 205)⟩, ⟨13, 0, .int .i64 (.var 207)⟩, ⟨14, 0, .int .i64 (.add (.var 14) (.lit 1))⟩, ⟨15, 0, .int .i64 (.var 208)⟩, ⟨16, 0, .int .i64 (.var 16)⟩, ⟨17, 1, .bool .tt⟩, ⟨18, 0, .int .i64 (.wrap .i64 (.add (.var 18) (.lit 1)))⟩, ⟨19, 0, .int .i64 (.var 19)⟩, ⟨20, 0, .int .i64 (.var 20)⟩, ⟨21, 1, .bool (.bvar 21)⟩, ⟨22, 1, .bool (.bvar 22)⟩, ⟨23, 1, .bool (.bvar 23)⟩, ⟨24, 1, .bool (.bvar 24)⟩, ⟨25, 1, .bool (.bvar 25)⟩, ⟨26, 1, .bool (.bvar 26)⟩, ⟨27, 1, .bool (.bvar 27)⟩, ⟨28, 1, .bool (.bvar 28)⟩, ⟨29, 1, .bool (.bvar 29)⟩, ⟨30, 1, .bool (.bvar 30)⟩, ⟨31, 1, .bool (.bvar 31)⟩, ⟨32, 1, .bool (.bvar 32)⟩, ⟨33, 0, .int .i64 (.var 33)⟩, ⟨34, 0, .int .i64 (.var 34)⟩, ⟨35, 0, .int .i64 (.var 35)⟩, ⟨36, 0, .int .i64 (.var 36)⟩, ⟨37, 0, .int .i64 (.var 37)⟩, ⟨38, 0, .int .i64 (.var 38)⟩, ⟨39, 0, .int .i64 (.var 39)⟩] [(40, some 204), (41, some 207)])))))))))))))))))))))))) (.imp (.not (.lt (.var 18) (.var 2))) (.and (.e (.le (.lit 0) (.var 14))) (.and (.e (.le (.lit (-1)) (.var 13))) (.and (.e (.le (.lit 0) (.ite (.lt (.wrap .i64 (.rem (.var 4) (.lit 50))) (.var 14)) (.wrap .i64 (.rem (.var 4) (.lit 50))) (.var 14)))) (.and (.e (.le (.ite (.lt (.wrap .i64 (.rem (.var 4) (.lit 50))) (.var 14)) (.wrap .i64 (.rem (.var 4) (.lit 50))) (.var 14)) (.var 15))) (.and (.pre (.call 3 42 [.sv (.one (.sl (.var 10) (.lit 0) (.var 11) (.var 12))), .sv (.one (.sl (.var 13) (.lit 0) (.ite (.lt (.wrap .i64 (.rem (.var 4) (.lit 50))) (.var 14)) (.wrap .i64 (.rem (.var 4) (.lit 50))) (.var 14)) (.var 15)))] [] [.hp 40 [] [.var 10] [], .hp 41 [] [.var 13] []])) (.ext (.call 3 42 [.sv (.one (.sl (.var 10) (.lit 0) (.var 11) (.var 12))), .sv (.one (.sl (.var 13) (.lit 0) (.ite (.lt (.wrap .i64 (.rem (.var 4) (.lit 50))) (.var 14)) (.wrap .i64 (.rem (.var 4) (.lit 50))) (.var 14)) (.var 15)))] [] [.hp 40 [] [.var 10] [], .hp 41 [] [.var 13] []]) (.ext (.alloc 64) (.and (.imp (.eq (.var 63) (.var 16)) (.post [.ro 5 [.var 0] false, .dead, .hp 40 [] [.var 10] [], .hp 41 [] [.var 13] [], .dead] (.sv (.one (.bool (.and (.eq (.var 42) (.var 19)) (.and (.eq (.var 43) (.var 20)) (.and (.and (.beq (.bvar 44) (.bvar 21)) (.and (.beq (.bvar 45) (.bvar 22)) (.and (.beq (.bvar 46) (.bvar 23)) (.and (.beq (.bvar 47) (.bvar 24)) (.and (.beq (.bvar 48) (.bvar 25)) (.beq (.bvar 49) (.bvar 26))))))) (.and (.and (.beq (.bvar 50) (.bvar 27)) (.and (.beq (.bvar 51) (.bvar 28)) (.and (.beq (.bvar 52) (.bvar 29)) (.and (.beq (.bvar 53) (.bvar 30)) (.and (.beq (.bvar 54) (.bvar 31)) (.beq (.bvar 55) (.bvar 32))))))) (.and (.and (.eq (.var 56) (.var 33)) (.and (.eq (.var 57) (.var 34)) (.and (.eq (.var 58) (.var 35)) (.and (.eq (.var 59) (.var 36)) (.and (.eq (.var 60) (.var 37)) (.eq (.var 61) (.var 38))))))) (.eq (.var 62) (.var 39)))))))))))) (.imp (.not (.eq (.var 63) (.var 16))) (.post [.ro 5 [.var 0] false, .dead, .hp 40 [] [.var 10] [], .hp 41 [] [.var 13] [], .dead] (.sv (.one (.bool .ff)))))))))))))))))))))) (.imp (.not (.bvar 6)) (.and (.pre (.call 0 7 [] [] [])) (.ext (.call 0 7 [] [] []) (.post [.ro 5 [.var 0] false] (.sv (.one (.bool (.bvar 7))))))))))
noncomputable def foldsW : Walk Try.prog folΓ 7 where
  Λ := fun p => if lp p then some ⟨0, [(6, .sv (.one (.sl (.var 10) (.lit 0) (.var 11) (.var 12)))), (7, .sv (.one (.sl (.var 13) (.lit 0) (.var 14) (.var 15)))), (8, TI .i64 (.var 16)), (9, TB (.bvar 17)), (10, TI .i64 (.var 18))], [(1, .blk 7 (Sx.ckCVs 19 gk2) 28), (2, .hp 40 [] [.var 10] []), (3, .hp 41 [] [.var 13] [])], 42⟩ else none
  args := [.sv (.one (.sl (.var 0) (.var 1) (.var 2) (.var 3))), TI .u8 (.var 4)]
  mem := [.ro 5 [.var 0] false]
  nv := 6
  nd := foldsNd
  ok := by kernel_rfl
theorem fg0 : folΓ[0]? = some awakeS2 := rfl
theorem fg1 : folΓ[1]? = some madeS := rfl
theorem fg2 : folΓ[2]? = some applyS2 := rfl
theorem fg3 : folΓ[3]? = some foldS := rfl
theorem fr0 : awakeS2.res = [.one .bool] := rfl
theorem fr1 : madeS.res = [.agg hk2, .agg ck2] := rfl
theorem fr2 : applyS2.res = [.agg gk2, .one (.int .i64)] := rfl
theorem fr3 : foldS.res = [.agg gk2, .one (.int .i64)] := rfl
set_option maxRecDepth 20000 in
theorem foldsS_ok : foldsS.OK Try.prog := by
  refine Spec.of_fn (Γ := folΓ) folΓ_ok ?_
  rintro xs Hs Rs hl1 hl2 ⟨v, cut, R, L, rfl, rfl, ⟨x, y, c, rfl, hy, a'⟩, hc0, hc1⟩
  have e0 : Hs = [] := List.length_eq_zero_iff.1 hl1
  subst e0
  refine ⟨foldsW, envI [x, y, L.length, c, cut] false [Hl.none, Hl.none, Hl.none, Hl.none, Hl.none, R], foldsInv L (cut.tmod 50).toNat, fun _ q => (L.length - q.i 18).toNat, ?_, ⟨?_, ?_, ?_, ?_⟩, (fun _ h => nomatch h), ?_⟩
  · show [Value.slice (slP x y) (L.length : Int).toNat ((c : Int)).toNat, Value.int .u8 cut] = _
    simp only [Int.toNat_natCast]
  · intro r hr ho; simp [foldsW] at hr; subst hr; cases ho
  · intro r hr ho; simp [foldsW] at hr; subst hr; exact ⟨R, by simp, Hl.le_refl _⟩
  · simp [foldsW]
  · intro r hr; simp [foldsW] at hr; subst hr; trivial
  · show Nd.holds _ _ _ foldsNd
    unfold foldsNd
    simp only [Nd.holds, X.pre, X.rel, X.n, fg0, fg1, fg2, fg3, fr0, fr1, fr2, fr3, newHs_zero, bT_tt, bT_ff, bT_bvar, bT_not, bT_and, bT_or, bT_ite, bT_lt, bT_le, bT_eq, bT_beq, bT_seq, bT_hB, bT_his, bT_hby, bT_hism, bT_hks, iev_lit, iev_var, iev_rem, iev_quo, iev_add, iev_sub, iev_mul, iev_wrap, iev_ite, iev_hI, iev_hP, iev_hmlen, sev_ite, sev_slit, sev_sof, sev_svar, Src.ok, Src.len, Src.vals, true_and, List.map_cons, List.map_nil, List.length_nil, Nat.add_zero]
    generalize hq0 : envI [x, y, L.length, c, cut] false [Hl.none, Hl.none, Hl.none, Hl.none, Hl.none, R] = q0
    have base : ∀ q, Agree 6 q0 q → q.i 0 = x ∧ q.i 1 = y ∧ q.i 2 = L.length ∧ q.i 4 = cut ∧ q.h 5 = R := by
      intro q g
      rw [g.i 0 (by omega), g.i 1 (by omega), g.i 2 (by omega), g.i 4 (by omega), g.h 5 (by omega), ← hq0]
      exact ⟨rfl, rfl, rfl, rfl, rfl⟩
    have yes : ∀ (ρ : Env) (mem : Mem) (r : TV), r.ev ρ = .bool true → postOf foldsS [.slice (slP x y) L.length c, .int .u8 cut] [] [R] ρ mem r := fun ρ mem r hr _ =>
      ⟨[], [], rfl, rfl, ⟨⟨fun _ => 0, fun _ => true, fun _ => .empty, fun _ => .tuple #[], fun _ => Hl.none⟩, by rw [hr]; rfl, trivial, trivial⟩, hr⟩
    refine ⟨⟨⟨q0, trivial, rfl⟩, trivial⟩, fun q1 g1 ⟨_, haw, _⟩ => ⟨fun _ => ?_, fun h => absurd (Value.bool.inj haw) h⟩⟩
    obtain ⟨k0, k1, k2, k4, k5⟩ := base q1 g1
    refine ⟨by omega, fun _ => ⟨⟨⟨q1, trivial, rfl⟩, trivial⟩, fun q2 g2 ⟨_, haw, _⟩ => yes _ _ _ haw⟩, fun h40 q2 g2 _ => ?_⟩
    refine ⟨?_, fun q3 g3 ⟨g, H, C, n, e18, hHL, hCH, e11, e14, n10, n12, n13, n15, oH, oC, okH, eg, e16, hs⟩ => ⟨fun hlt => ?_, fun hge => ?_⟩⟩
    · exact ⟨g0, [], [], 0, rfl, Nat.zero_le _, rfl, rfl, rfl, Int.le_refl _, Int.le_refl _, Int.le_refl _, Int.le_refl _, OwR.nil _ _ _, OwR.nil _ _ _, (fun _ h => nomatch h), rfl, rfl, ⟨fun _ => ⟨rfl, Nat.zero_le _, fun _ _ => rfl⟩, fun x => nomatch x⟩⟩
    · have G3 : Agree 6 q0 q3 := g1.trans ((g2.mono (by omega)).trans (g3.mono (by omega)))
      obtain ⟨k0, k1, k2, k4, k5⟩ := base q3 G3
      have hi : H.length < L.length := by omega
      obtain ⟨x0, s0, s1, s2, s3, hc0', hc1', hc2', hc3'⟩ : 0 ≤ x ∧ valIs (R.cell x.toNat (y.toNat + H.length * 4 + 0)) (.int .i64) = true ∧ valIs (R.cell x.toNat (y.toNat + H.length * 4 + 1)) (.int .i64) = true ∧ valIs (R.cell x.toNat (y.toNat + H.length * 4 + 2)) (.int .i64) = true ∧ valIs (R.cell x.toNat (y.toNat + H.length * 4 + 3)) (.int .u64) = true ∧ True ∧ True ∧ True ∧ True := by
        rcases a' with rfl | ⟨h1, h2⟩
        · simp at hi
        · obtain ⟨hk, hcell⟩ := h2 H.length L[H.length] (List.getElem?_eq_getElem hi)
          generalize L[H.length] = s at hk hcell
          match s, hk with
          | [v0, v1, v2, v3], ⟨m0, m1, m2, m3, _⟩ =>
            refine ⟨h1, ?_, ?_, ?_, ?_, trivial, trivial, trivial, trivial⟩
            · rw [show y.toNat + H.length * 4 + 0 = y.toNat + H.length * skd.length + 0 from rfl, hcell 0 v0 rfl]; exact m0
            · rw [show y.toNat + H.length * 4 + 1 = y.toNat + H.length * skd.length + 1 from rfl, hcell 1 v1 rfl]; exact m1
            · rw [show y.toNat + H.length * 4 + 2 = y.toNat + H.length * skd.length + 2 from rfl, hcell 2 v2 rfl]; exact m2
            · rw [show y.toNat + H.length * 4 + 3 = y.toNat + H.length * skd.length + 3 from rfl, hcell 3 v3 rfl]; exact m3
      have ady : (q3.i 1 + q3.i 18 * 4).toNat = y.toNat + H.length * 4 := by rw [k1, e18]; omega
      rw [ady, k5, k0]
      refine ⟨by omega, by omega, by omega, s0, s1, s2, s3, ?_, fun q4 g4 ⟨_, ⟨xx, cc, hv⟩, _, nrm⟩ q5 g5 _ q6 g6 _ q7 g7 _ => ?_⟩
      · show madeS.pre [(SV.agg (Sx.ckCVs 19 gk2)).ev q3, .agg #[.int .i64 _, .int .i64 _, .int .i64 _, .int .u64 _]] [] []
        rw [eg]; exact made_pre g _ _ _ _
      have hv : Value.tuple #[(SV.agg (Sx.ckCVs 42 hk2)).ev q4, (SV.agg (Sx.ckCVs 170 ck2)).ev q4] = .tuple #[hdrV xx, cc] := hv
      have hv : [(SV.agg (Sx.ckCVs 42 hk2)).ev q4, (SV.agg (Sx.ckCVs 170 ck2)).ev q4] = [hdrV xx, cc] := congrArg Array.toList (Value.tuple.inj hv)
      simp only [List.cons.injEq, and_true] at hv
      have nh : rowOK ((Sx.ckCVs 42 hk2).map (CV.ev q4)) hkd := row_of hk2 42 nrm.1
      have nc : rowOK ((Sx.ckCVs 170 ck2).map (CV.ev q4)) ckd := row_of ck2 170 nrm.2.1
      have hh : rowV ((Sx.ckCVs 42 hk2).map (CV.ev q4)) = hdrV xx := hv.1
      clear hv nrm
      have evh : ∀ q, Agree 201 q4 q → (Sx.ckCVs 42 hk2).map (CV.ev q) = (Sx.ckCVs 42 hk2).map (CV.ev q4) := fun q gq => CV.agreeL (gq.mono (by decide : 42 + ckLen hk2 ≤ 201)) _ (ckCVs_upto hk2 42)
      have evc : ∀ q, Agree 201 q4 q → (Sx.ckCVs 170 ck2).map (CV.ev q) = (Sx.ckCVs 170 ck2).map (CV.ev q4) := fun q gq => CV.agreeL (gq.mono (by decide : 170 + ckLen ck2 ≤ 201)) _ (ckCVs_upto ck2 170)
      generalize (Sx.ckCVs 42 hk2).map (CV.ev q4) = h at nh hh evh
      generalize (Sx.ckCVs 170 ck2).map (CV.ev q4) = c at nc evc
      have G7 : Agree 201 q4 q7 := (g5.trans (g6.mono (by omega))).trans (g7.mono (by omega))
      have F7 : Agree 42 q3 q7 := g4.trans (G7.mono (by omega))
      refine ⟨⟨⟨H.flatten, ?_⟩, ?_, ?_, ?_⟩, fun q8 g8 ⟨a1, a2, a3, _⟩ q9 g9 _ => ?_⟩
      · show OwnsH (q7.h 40) _ 125 (.slice (slP (q7.i 10) 0) (q7.i 11).toNat (q7.i 12).toNat) (q7.i 11).toNat _
        rw [F7.h 40 (by omega), F7.i 10 (by omega), F7.i 11 (by omega), F7.i 12 (by omega)]
        exact oH.pre e11
      · rw [F7.i 11 (by omega)]; omega
      · rw [F7.i 11 (by omega)]; unfold maxLen; omega
      · rw [F7.i 11 (by omega)]; omega
      have F9 : Agree 42 q3 q9 := F7.trans ((g8.mono (by omega)).trans (g9.mono (by omega)))
      have oH9 : OwR (q8.h 204) 46 hkd (.slice (slP (q8.i 204) 0) (q7.i 11 + 1).toNat (q8.i 205).toNat) (H ++ [h]) := by
        refine OwR.app (A := q7.h 40) (x := q7.i 10) (c := q7.i 12) ?_ (by rw [F7.i 11 (by omega)]; exact e11) nh (fun xs hx => ?_)
        · rw [F7.h 40 (by omega), F7.i 10 (by omega), F7.i 11 (by omega), F7.i 12 (by omega)]; exact oH
        · have := a3 xs hx
          rw [evh q7 G7] at this
          exact this
      refine ⟨⟨⟨C.flatten, ?_⟩, ?_, ?_, ?_⟩, fun q10 g10 ⟨b1, b2, b3, _⟩ => ?_⟩
      · show OwnsH (q9.h 41) _ 10 (.slice (slP (q9.i 13) 0) (q9.i 14).toNat (q9.i 15).toNat) (q9.i 14).toNat _
        rw [F9.h 41 (by omega), F9.i 13 (by omega), F9.i 14 (by omega), F9.i 15 (by omega)]
        exact oC.pre (by rw [hCH]; exact e14)
      · rw [F9.i 14 (by omega)]; omega
      · rw [F9.i 14 (by omega)]; unfold maxLen; omega
      · rw [F9.i 14 (by omega)]; omega
      have G9 : Agree 201 q4 q9 := G7.trans ((g8.mono (by omega)).trans (g9.mono (by omega)))
      have G10 : Agree 201 q4 q10 := G9.trans (g10.mono (by omega))
      have F10 : Agree 42 q3 q10 := g4.trans (G10.mono (by omega))
      have oC10 : OwR (q10.h 207) 50 ckd (.slice (slP (q10.i 207) 0) (q9.i 14 + 1).toNat (q10.i 208).toNat) (C ++ [c]) := by
        refine OwR.app (A := q9.h 41) (x := q9.i 13) (c := q9.i 15) ?_ (by rw [F9.i 14 (by omega), hCH]; exact e14) nc (fun xs hx => ?_)
        · rw [F9.h 41 (by omega), F9.i 13 (by omega), F9.i 14 (by omega), F9.i 15 (by omega)]; exact oC
        · have := b3 xs hx
          rw [evc q9 G9] at this
          exact this
      have hhok : HdrOK (rowV h) Hl.none := by rw [hh]; exact hdr_ok xx
      have pgrp : TV.ev q10 (.sv (.agg (Sx.ckCVs 19 gk2))) = gV g := by
        show (SV.agg (Sx.ckCVs 19 gk2)).ev q10 = _
        rw [Sx.ev_ag F10 (by decide), eg]
      have phdr : TV.ev q10 (.sv (.agg (Sx.ckCVs 42 hk2))) = rowV h := by
        show Value.agg ((Sx.ckCVs 42 hk2).map (CV.ev q10)).toArray = _
        rw [evh q10 G10]; rfl
      have pctl : TV.ev q10 (.sv (.agg (Sx.ckCVs 170 ck2))) = rowV c := by
        show Value.agg ((Sx.ckCVs 170 ck2).map (CV.ev q10)).toArray = _
        rw [evc q10 G10]; rfl
      rw [pgrp, phdr, pctl]
      refine ⟨apply_pre g h c nh nc hhok, fun q11 g11 ⟨F, ⟨g', h', c'', R', hx, hR, hv⟩, _⟩ q12 g12 _ => ?_⟩
      cases hx; cases hR
      have hv : Value.tuple #[(SV.agg (Sx.ckCVs 209 gk2)).ev q11, .int .i64 (q11.i 230)] = .tuple #[gV (stepR g h c).1, .int .i64 (stepR g h c).2] := hv
      have hv : [(SV.agg (Sx.ckCVs 209 gk2)).ev q11, .int .i64 (q11.i 230)] = [gV (stepR g h c).1, .int .i64 (stepR g h c).2] := congrArg Array.toList (Value.tuple.inj hv)
      simp only [List.cons.injEq, Value.int.injEq, true_and, and_true] at hv
      obtain ⟨hv1, hv2⟩ := hv
      have F12 : Agree 42 q3 q12 := F10.trans ((g11.mono (by omega)).trans (g12.mono (by omega)))
      have T12 : Agree 204 q7 q12 := g8.trans ((g9.mono (by omega)).trans ((g10.mono (by omega)).trans ((g11.mono (by omega)).trans (g12.mono (by omega)))))
      have S12 : Agree 206 q8 q12 := g9.trans ((g10.mono (by omega)).trans ((g11.mono (by omega)).trans (g12.mono (by omega))))
      have R12 : Agree 209 q10 q12 := g11.trans (g12.mono (by omega))
      have hv1' : (SV.agg (Sx.ckCVs 209 gk2)).ev q12 = gV (stepR g h c).1 := by rw [Sx.ev_ag g12 (by decide), hv1]
      have hold : (SV.agg (Sx.ckCVs 19 gk2)).ev q12 = gV g := by rw [Sx.ev_ag F12 (by decide), eg]
      have j230 : q12.i 230 = (stepR g h c).2 := by rw [g12.i 230 (by omega), hv2]
      have j16 : q12.i 16 = n := by rw [F12.i 16 (by omega), e16]
      have j17 : q12.b 17 = q3.b 17 := F12.b 17 (by omega)
      have j18 : q12.i 18 = H.length := by rw [F12.i 18 (by omega), e18]
      have j4 : q12.i 4 = cut := (base q12 (G3.trans (F12.mono (by omega)))).2.2.2.1
      have w18 : IntKind.i64.wrap (q12.i 18 + 1) = H.length + 1 := by rw [wrap_i64 (by omega) (by omega), j18]
      have kk0 : 0 ≤ cut.tmod 50 := Int.tmod_nonneg _ hc0
      have kk1 : cut.tmod 50 < 50 := Int.tmod_lt_of_pos _ (by decide)
      have wk : IntKind.i64.wrap ((q12.i 4).tmod 50) = cut.tmod 50 := by rw [j4, wrap_i64 (by omega) (by omega)]
      have next : ∀ (g' : Grp) (n' : Nat) (b' : Bool) (i16 : Int) (gv : Value), gv = gV g' → i16 = n' → seqInv (cut.tmod 50).toNat b' g' n' (H ++ [h]) (C ++ [c]) →
          FI L (cut.tmod 50).toNat (q12.i 204) (q12.i 11 + 1) (q12.i 205) (q12.i 207) (q12.i 14 + 1) (q12.i 208) i16 (IntKind.i64.wrap (q12.i 18 + 1)) b' (q12.h 204) (q12.h 207) gv ∧ ((L.length : Int) - IntKind.i64.wrap (q12.i 18 + 1)).toNat < ((L.length : Int) - q3.i 18).toNat := by
        intro g' n' b' i16 gv h1 h2 h3
        refine ⟨⟨g', H ++ [h], C ++ [c], n', ?_, ?_, ?_, ?_, ?_, ?_, ?_, ?_, ?_, ?_, ?_, ?_, h1, h2, h3⟩, ?_⟩
        · rw [w18, List.length_append]; rfl
        · rw [List.length_append]; exact hi
        · rw [List.length_append, List.length_append, hCH]; rfl
        · rw [F12.i 11 (by omega), e11, List.length_append]; rfl
        · rw [F12.i 14 (by omega), e14, List.length_append]; rfl
        · rw [S12.i 204 (by omega)]; exact a1
        · rw [S12.i 205 (by omega)]; exact a2
        · rw [R12.i 207 (by omega)]; exact b1
        · rw [R12.i 208 (by omega)]; exact b2
        · rw [S12.h 204 (by omega), S12.i 204 (by omega), S12.i 205 (by omega), T12.i 11 (by omega)]; exact oH9
        · rw [R12.h 207 (by omega), R12.i 207 (by omega), R12.i 208 (by omega), F12.i 14 (by omega), ← F9.i 14 (by omega)]; exact oC10
        · intro r hr
          rcases List.mem_append.1 hr with hr | hr
          · exact okH r hr
          · rw [List.mem_singleton] at hr; subst hr; exact hhok
        · rw [w18, e18]; omega
      rw [wk, j18]
      refine ⟨fun hno => ⟨fun h0 => ⟨fun hlt' => ?_, fun hle => ?_⟩, fun hne => ?_⟩, fun hov => ?_⟩
      · have hb : bev q12 (.le (.wrap .i64 (.rem (.var 4) (.lit 50))) (.var 18)) = false := by
          rw [bev_le, iev_wrap, iev_rem, iev_var, iev_lit, iev_var, wk, j18]; exact decide_eq_false hlt'
        rw [j17, Bool.not_eq_true] at hno
        rw [hno] at hs
        refine next (stepR g h c).1 (n + 1) (bev q12 (.le (.wrap .i64 (.rem (.var 4) (.lit 50))) (.var 18))) _ _ hv1' ?_ (by rw [hb]; exact seq_on hCH hs (by rw [← j230]; exact h0) (by omega))
        show IntKind.i64.wrap (q12.i 16 + 1) = _
        have := (hs.1 rfl).1
        rw [wrap_i64 (by omega) (by omega), j16]; rfl
      · have hb : bev q12 (.le (.wrap .i64 (.rem (.var 4) (.lit 50))) (.var 18)) = true := by
          rw [bev_le, iev_wrap, iev_rem, iev_var, iev_lit, iev_var, wk, j18]; exact decide_eq_true hle
        rw [j17, Bool.not_eq_true] at hno
        rw [hno] at hs
        exact next g n (bev q12 (.le (.wrap .i64 (.rem (.var 4) (.lit 50))) (.var 18))) _ _ hold j16 (by rw [hb]; exact seq_cut hCH hs (Or.inr (by omega)))
      · rw [j17, Bool.not_eq_true] at hno
        rw [hno] at hs
        exact next g n true _ _ hold j16 (seq_cut hCH hs (Or.inl (by rw [← j230]; exact hne)))
      · rw [j17] at hov
        rw [hov] at hs
        exact next g n true _ _ hold j16 (seq_over hs)
    · have G3 : Agree 6 q0 q3 := g1.trans ((g2.mono (by omega)).trans (g3.mono (by omega)))
      obtain ⟨k0, k1, k2, k4, k5⟩ := base q3 G3
      have kk0 : 0 ≤ cut.tmod 50 := Int.tmod_nonneg _ hc0
      have kk1 : cut.tmod 50 < 50 := Int.tmod_lt_of_pos _ (by decide)
      have wk : IntKind.i64.wrap ((q3.i 4).tmod 50) = cut.tmod 50 := by rw [k4, wrap_i64 (by omega) (by omega)]
      have capC := oC.cap (by rw [hCH]; exact e14) n15
      have fIn : ∀ m : Int, m = (if cut.tmod 50 < q3.i 14 then cut.tmod 50 else q3.i 14) → FoldIn [.slice (slP (q3.i 10) 0) (q3.i 11).toNat (q3.i 12).toNat, .slice (slP (q3.i 13) 0) m.toNat (q3.i 15).toNat] [q3.h 40, q3.h 41] H (C.take (min H.length (cut.tmod 50).toNat)) := by
        intro m hm
        refine ⟨_, _, _, _, rfl, rfl, oH.rd, ?_⟩
        have := oC.rd.take n13 (Int.le_refl 0) (by omega) (m := m) (c' := q3.i 15) (by rw [hm]; split <;> omega) (by rw [hm]; split <;> omega)
        rw [show min H.length (cut.tmod 50).toNat = m.toNat by rw [hm]; split <;> omega]
        exact this
      simp only [bev_lt, iev_wrap, iev_rem, iev_var, iev_lit, wk, decide_eq_true_eq]
      generalize hm : (if cut.tmod 50 < q3.i 14 then cut.tmod 50 else q3.i 14) = m
      have em : iev q3 eM = m := by
        show iev q3 (.ite _ _ _) = m
        simp only [iev_ite, bev_lt, iev_wrap, iev_rem, iev_var, iev_lit, wk, decide_eq_true_eq]
        exact hm
      have fI := fIn m hm.symm
      refine ⟨by omega, by omega, by rw [← hm]; split <;> omega, by rw [← hm]; split <;> omega, ?_, fun q4 g4 ⟨F, ⟨H', C', hf, hv⟩, _⟩ q5 g5 _ => ?_⟩
      · show foldS.pre [.slice (slP (q3.i 10) 0) (q3.i 11).toNat (q3.i 12).toNat, .slice (slP (q3.i 13) 0) (iev q3 eM).toNat (q3.i 15).toNat] [] [q3.h 40, q3.h 41]
        rw [em]
        exact ⟨H, _, fI, by omega, okH⟩
      · have hf : FoldIn [.slice (slP (q3.i 10) 0) (q3.i 11).toNat (q3.i 12).toNat, .slice (slP (q3.i 13) 0) (iev q3 eM).toNat (q3.i 15).toNat] [q3.h 40, q3.h 41] H' C' := hf
        rw [em] at hf
        obtain ⟨rfl, rfl⟩ := hf.uniq fI
        rw [seq_end hCH hs] at hv
        have hv : Value.tuple #[(SV.agg (Sx.ckCVs 42 gk2)).ev q4, .int .i64 (q4.i 63)] = .tuple #[gV g, .int .i64 n] := hv
        have hv : [(SV.agg (Sx.ckCVs 42 gk2)).ev q4, .int .i64 (q4.i 63)] = [gV g, .int .i64 n] := congrArg Array.toList (Value.tuple.inj hv)
        simp only [List.cons.injEq, Value.int.injEq, true_and, and_true] at hv
        obtain ⟨hv1, hv2⟩ := hv
        have j63 : q5.i 63 = n := by rw [g5.i 63 (by omega), hv2]
        have F5 : Agree 42 q3 q5 := g4.trans (g5.mono (by omega))
        have j16 : q5.i 16 = n := by rw [F5.i 16 (by omega), e16]
        refine ⟨fun _ => yes _ _ _ ?_, fun h => absurd (j63.trans j16.symm) h⟩
        have e1 : (SV.agg (Sx.ckCVs 42 gk2)).ev q5 = (SV.agg (Sx.ckCVs 19 gk2)).ev q5 := by
          rw [Sx.ev_ag g5 (by decide), hv1, Sx.ev_ag F5 (by decide), eg]
        exact congrArg Value.bool (eq_group e1)
end Go.Proofs.Ytngboefkhfldgaa.V2
