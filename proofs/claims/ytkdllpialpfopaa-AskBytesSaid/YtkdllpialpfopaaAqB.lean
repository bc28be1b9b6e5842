/- Layer 22: pieces and requests by what they tell; the reference's blank, as a contract. Condition: bytes below 256. -/
import Derived.Test.YtkdllpialpfopaaAqZ
set_option linter.unusedSimpArgs false
set_option linter.unusedVariables false
set_option linter.constructorNameAsVariable false
namespace Go.Proofs.Ytkdllpialpfopaa
open Go Go.Sx Go.Pk

def pk2 : List Ck := hk2 ++ [.sl]
def qk2 : List Ck := [.int .u64, i64] ++ pk2 ++ List.replicate 6 (.int .u64) ++ [.bool, .sl] ++ [i64, i64, .int .u64]
def pkd : List Kd := pk2.map kdOf
def qkd : List Kd := qk2.map kdOf
def noV : Value := .bool false
/-- A piece: its header, and its body. -/
structure Pc where
  h : Hd
  b : List Int
def Pc.Blank (p : Pc) : Prop := p.b = [] ∧ p.h = hz
structure IsPc (R1 R2 : Hl) (row : List Value) (p : Pc) : Prop where
  ok : rowOK row pkd
  hd : IsHd R1 (row.take 125) p.h
  body : RdW R2 (row.getD 125 noV) p.b
  byte : bytes256 p.b
  len : p.b.length ≤ 1000000
theorem rdW_mono {R R' : Hl} {v : Value} {bs : List Int} (h : RdW R v bs) (hl : R.le R') : RdW R' v bs := by
  obtain ⟨x, y, c, e, hy, h⟩ := h
  refine ⟨x, y, c, e, hy, h.imp id fun ⟨hx, h⟩ => ⟨hx, fun j z hz => ?_⟩⟩
  have hc := h j z hz
  unfold Hl.cell at hc ⊢
  cases hR : R x.toNat with
  | none => rw [hR] at hc; cases hc
  | some o => rw [hl _ _ hR]; rw [hR] at hc; exact hc
theorem IsPc.mono {R1 R2 R1' R2' : Hl} {row : List Value} {p : Pc} (x : IsPc R1 R2 row p) (h1 : R1.le R1') (h2 : R2.le R2') : IsPc R1' R2' row p := ⟨x.ok, x.hd.mono h1, rdW_mono x.body h2, x.byte, x.len⟩
theorem IsPc.uniq {R1 R2 : Hl} {row : List Value} {p p' : Pc} (x : IsPc R1 R2 row p) (y : IsPc R1 R2 row p') : p = p' := by
  obtain ⟨h, b⟩ := p
  obtain ⟨h', b'⟩ := p'
  have e1 : h = h' := x.hd.uniq y.hd
  have e2 : b = b' := x.body.uniq y.body
  rw [e1, e2]
theorem ck_h {q : Env} (g : Nat → Hl) : ∀ (ks : List Ck) (n : Nat), (ckCVs n ks).map (CV.ev q) = (ckCVs n ks).map (CV.ev ⟨q.i, q.b, q.s, q.v, g⟩)
  | [], _ => rfl
  | k :: ks, n => by
    show (k.cv n).ev q :: _ = (k.cv n).ev _ :: _
    rw [ck_h g ks]
    congr 1
    cases k <;> rfl
theorem nm_h {q : Env} (g : Nat → Hl) : ∀ (ks : List Ck) (n : Nat), ckNormsW n ks q → ckNormsW n ks ⟨q.i, q.b, q.s, q.v, g⟩
  | [], _, _ => trivial
  | k :: ks, n, h => ⟨(by have h1 := h.1; cases k <;> exact h1), nm_h g ks _ h.2⟩
def hsAt (hs : List (Nat × Hl)) (k : Nat) : Hl := match hs.find? (fun p => p.1 == k) with
  | some p => p.2
  | none => Hl.none
/-- The numbers that stand behind a row of any kind. -/
theorem row_env {ks : List Ck} {row : List Value} (hs : List (Nat × Hl)) (h : rowOK row (ks.map kdOf)) : ∃ q : Env, row = (ckCVs 0 ks).map (CV.ev q) ∧ ckNormsW 0 ks q ∧ ∀ k, q.h k = hsAt hs k := by
  obtain ⟨q, _, hn, e⟩ := row_rep ks 0 row ⟨fun _ => 0, fun _ => false, fun _ => .empty, fun _ => .tuple #[], fun _ => Hl.none⟩ h
  exact ⟨⟨q.i, q.b, q.s, q.v, hsAt hs⟩, by rw [← ck_h (hsAt hs)]; exact e.symm, nm_h _ _ _ hn, fun _ => rfl⟩
theorem norms_at {q : Env} : ∀ (a b : List Ck) (n : Nat), ckNormsW n (a ++ b) q → ckNormsW (n + ckLen a) b q := by
  intro a
  induction a with
  | nil => intro b n h; simpa [ckLen] using h
  | cons k a ih =>
    intro b n h
    have := ih b (n + k.len) h.2
    rw [show n + k.len + ckLen a = n + ckLen (k :: a) by simp [ckLen]; omega] at this
    exact this
theorem hz_iff {q : Env} : (hrow q 0).set 53 (.bool false) = zrow.set 53 (.bool false) ↔ q.i 0 = 0 ∧ q.i 1 = 0 ∧ zer q.i 2 32 ∧ q.i 34 = 0 ∧ q.b 35 = false ∧ q.i 36 = 0 ∧ zer q.i 37 16 ∧ zer q.i 57 6 ∧ zer q.i 63 32 ∧ q.i 95 = 0 ∧ zer q.i 96 32 := by
  simp only [hrow, hk2, zrow, List.replicate, List.cons_append, List.nil_append, ckCVs, Ck.cv, Ck.len, i64, List.map_cons, List.map_nil, List.set_cons_succ, List.set_cons_zero, CV.ev, iev_var, bev_bvar, Nat.zero_add, Nat.add_assoc, Nat.reduceAdd, List.cons.injEq, Value.int.injEq, Value.bool.injEq, true_and, and_true, zer, and_assoc]
theorem hd_zero {R : Hl} {row : List Value} {h : Hd} (x : IsHd R row h) : h = hz ↔ h.t = [] ∧ row.set 53 (.bool false) = zrow.set 53 (.bool false) := by
  rw [← x.core]
  cases h
  show Hd.mk _ _ = Hd.mk _ _ ↔ _
  simp [and_comm, noV]
open Classical in
noncomputable def blankS : Sx.Spec where
  fn := 21
  own := []
  rd := [1000053, 1000125]
  res := [.one .bool]
  pre := fun xs Hs Rs => ∃ row R1 R2 p, xs = [.agg row.toArray] ∧ Rs = [R1, R2] ∧ IsPc R1 R2 row p
  post := fun xs Hs Rs v Hs' F => ∃ row R1 R2 p, xs = [.agg row.toArray] ∧ Rs = [R1, R2] ∧ IsPc R1 R2 row p ∧ v = .bool (decide p.Blank)
noncomputable def blkΓ : List Sx.Spec := [formS 19]
def blankNd : Nd := .ext (.alloc 152) (.and (.e (.le (.lit 0) (.var 130))) (.and (.imp (.eq (.var 130) (.lit 0)) (.ext (.alloc 153) (.and (.pre (.call 0 154 [.sv (.agg (ckCVs 0 hk2))] [] [.ro 150 [.var 53] false])) (.ext (.call 0 154 [.sv (.agg (ckCVs 0 hk2))] [] [.ro 150 [.var 53] false]) (.and (.imp (.bvar 154) (.and (.pre (.call 0 155 [.sv (.agg hzC)] [] [.dead])) (.ext (.call 0 155 [.sv (.agg hzC)] [] [.dead]) (.ext (.alloc 156) (.and (.imp (.and (.eq (.var 2) (.lit 0)) (.and (.eq (.var 3) (.lit 0)) (.and (.eq (.var 4) (.lit 0)) (.and (.eq (.var 5) (.lit 0)) (.and (.eq (.var 6) (.lit 0)) (.and (.eq (.var 7) (.lit 0)) (.and (.eq (.var 8) (.lit 0)) (.and (.eq (.var 9) (.lit 0)) (.and (.eq (.var 10) (.lit 0)) (.and (.eq (.var 11) (.lit 0)) (.and (.eq (.var 12) (.lit 0)) (.and (.eq (.var 13) (.lit 0)) (.and (.eq (.var 14) (.lit 0)) (.and (.eq (.var 15) (.lit 0)) (.and (.eq (.var 16) (.lit 0)) (.and (.eq (.var 17) (.lit 0)) (.and (.eq (.var 18) (.lit 0)) (.and (.eq (.var 19) (.lit 0)) (.and (.eq (.var 20) (.lit 0)) (.and (.eq (.var 21) (.lit 0)) (.and (.eq (.var 22) (.lit 0)) (.and (.eq (.var 23) (.lit 0)) (.and (.eq (.var 24) (.lit 0)) (.and (.eq (.var 25) (.lit 0)) (.and (.eq (.var 26) (.lit 0)) (.and (.eq (.var 27) (.lit 0)) (.and (.eq (.var 28) (.lit 0)) (.and (.eq (.var 29) (.lit 0)) (.and (.eq (.var 30) (.lit 0)) (.and (.eq (.var 31) (.lit 0)) (.and (.eq (.var 32) (.lit 0)) (.eq (.var 33) (.lit 0))))))))))))))))))))))))))))))))) (.and (.imp (.and (.eq (.var 37) (.lit 0)) (.and (.eq (.var 38) (.lit 0)) (.and (.eq (.var 39) (.lit 0)) (.and (.eq (.var 40) (.lit 0)) (.and (.eq (.var 41) (.lit 0)) (.and (.eq (.var 42) (.lit 0)) (.and (.eq (.var 43) (.lit 0)) (.and (.eq (.var 44) (.lit 0)) (.and (.eq (.var 45) (.lit 0)) (.and (.eq (.var 46) (.lit 0)) (.and (.eq (.var 47) (.lit 0)) (.and (.eq (.var 48) (.lit 0)) (.and (.eq (.var 49) (.lit 0)) (.and (.eq (.var 50) (.lit 0)) (.and (.eq (.var 51) (.lit 0)) (.eq (.var 52) (.lit 0))))))))))))))))) (.and (.imp (.and (.eq (.var 63) (.lit 0)) (.and (.eq (.var 64) (.lit 0)) (.and (.eq (.var 65) (.lit 0)) (.and (.eq (.var 66) (.lit 0)) (.and (.eq (.var 67) (.lit 0)) (.and (.eq (.var 68) (.lit 0)) (.and (.eq (.var 69) (.lit 0)) (.and (.eq (.var 70) (.lit 0)) (.and (.eq (.var 71) (.lit 0)) (.and (.eq (.var 72) (.lit 0)) (.and (.eq (.var 73) (.lit 0)) (.and (.eq (.var 74) (.lit 0)) (.and (.eq (.var 75) (.lit 0)) (.and (.eq (.var 76) (.lit 0)) (.and (.eq (.var 77) (.lit 0)) (.and (.eq (.var 78) (.lit 0)) (.and (.eq (.var 79) (.lit 0)) (.and (.eq (.var 80) (.lit 0)) (.and (.eq (.var 81) (.lit 0)) (.and (.eq (.var 82) (.lit 0)) (.and (.eq (.var 83) (.lit 0)) (.and (.eq (.var 84) (.lit 0)) (.and (.eq (.var 85) (.lit 0)) (.and (.eq (.var 86) (.lit 0)) (.and (.eq (.var 87) (.lit 0)) (.and (.eq (.var 88) (.lit 0)) (.and (.eq (.var 89) (.lit 0)) (.and (.eq (.var 90) (.lit 0)) (.and (.eq (.var 91) (.lit 0)) (.and (.eq (.var 92) (.lit 0)) (.and (.eq (.var 93) (.lit 0)) (.eq (.var 94) (.lit 0))))))))))))))))))))))))))))))))) (.and (.imp (.and (.eq (.var 57) (.lit 0)) (.and (.eq (.var 58) (.lit 0)) (.and (.eq (.var 59) (.lit 0)) (.and (.eq (.var 60) (.lit 0)) (.and (.eq (.var 61) (.lit 0)) (.eq (.var 62) (.lit 0))))))) (.ext (.alloc 157) (.and (.imp (.eq (.var 0) (.lit 0)) (.and (.imp (.eq (.var 1) (.lit 0)) (.and (.imp (.eq (.var 34) (.lit 0)) (.and (.imp (.eq (.var 36) (.lit 0)) (.and (.imp (.eq (.var 95) (.lit 0)) (.and (.e (.le (.lit 0) (.var 55))) (.and (.imp (.eq (.var 55) (.lit 0)) (.and (.imp (.and (.eq (.var 96) (.lit 0)) (.and (.eq (.var 97) (.lit 0)) (.and (.eq (.var 98) (.lit 0)) (.and (.eq (.var 99) (.lit 0)) (.and (.eq (.var 100) (.lit 0)) (.and (.eq (.var 101) (.lit 0)) (.and (.eq (.var 102) (.lit 0)) (.and (.eq (.var 103) (.lit 0)) (.and (.eq (.var 104) (.lit 0)) (.and (.eq (.var 105) (.lit 0)) (.and (.eq (.var 106) (.lit 0)) (.and (.eq (.var 107) (.lit 0)) (.and (.eq (.var 108) (.lit 0)) (.and (.eq (.var 109) (.lit 0)) (.and (.eq (.var 110) (.lit 0)) (.and (.eq (.var 111) (.lit 0)) (.and (.eq (.var 112) (.lit 0)) (.and (.eq (.var 113) (.lit 0)) (.and (.eq (.var 114) (.lit 0)) (.and (.eq (.var 115) (.lit 0)) (.and (.eq (.var 116) (.lit 0)) (.and (.eq (.var 117) (.lit 0)) (.and (.eq (.var 118) (.lit 0)) (.and (.eq (.var 119) (.lit 0)) (.and (.eq (.var 120) (.lit 0)) (.and (.eq (.var 121) (.lit 0)) (.and (.eq (.var 122) (.lit 0)) (.and (.eq (.var 123) (.lit 0)) (.and (.eq (.var 124) (.lit 0)) (.and (.eq (.var 125) (.lit 0)) (.and (.eq (.var 126) (.lit 0)) (.eq (.var 127) (.lit 0))))))))))))))))))))))))))))))))) (.and (.imp (.not (.bvar 35)) (.ext (.alloc 158) (.ext (.alloc 159) (.post [.ro 150 [.var 53] false, .ro 151 [.var 128] false, .dead, .dead, .dead, .dead, .dead, .dead] (.sv (.one (.bool .tt))))))) (.imp (.bvar 35) (.post [.ro 150 [.var 53] false, .ro 151 [.var 128] false, .dead, .dead, .dead, .dead] (.sv (.one (.bool .ff))))))) (.imp (.not (.and (.eq (.var 96) (.lit 0)) (.and (.eq (.var 97) (.lit 0)) (.and (.eq (.var 98) (.lit 0)) (.and (.eq (.var 99) (.lit 0)) (.and (.eq (.var 100) (.lit 0)) (.and (.eq (.var 101) (.lit 0)) (.and (.eq (.var 102) (.lit 0)) (.and (.eq (.var 103) (.lit 0)) (.and (.eq (.var 104) (.lit 0)) (.and (.eq (.var 105) (.lit 0)) (.and (.eq (.var 106) (.lit 0)) (.and (.eq (.var 107) (.lit 0)) (.and (.eq (.var 108) (.lit 0)) (.and (.eq (.var 109) (.lit 0)) (.and (.eq (.var 110) (.lit 0)) (.and (.eq (.var 111) (.lit 0)) (.and (.eq (.var 112) (.lit 0)) (.and (.eq (.var 113) (.lit 0)) (.and (.eq (.var 114) (.lit 0)) (.and (.eq (.var 115) (.lit 0)) (.and (.eq (.var 116) (.lit 0)) (.and (.eq (.var 117) (.lit 0)) (.and (.eq (.var 118) (.lit 0)) (.and (.eq (.var 119) (.lit 0)) (.and (.eq (.var 120) (.lit 0)) (.and (.eq (.var 121) (.lit 0)) (.and (.eq (.var 122) (.lit 0)) (.and (.eq (.var 123) (.lit 0)) (.and (.eq (.var 124) (.lit 0)) (.and (.eq (.var 125) (.lit 0)) (.and (.eq (.var 126) (.lit 0)) (.eq (.var 127) (.lit 0)))))))))))))))))))))))))))))))))) (.post [.ro 150 [.var 53] false, .ro 151 [.var 128] false, .dead, .dead, .dead, .dead] (.sv (.one (.bool .ff))))))) (.imp (.not (.eq (.var 55) (.lit 0))) (.post [.ro 150 [.var 53] false, .ro 151 [.var 128] false, .dead, .dead, .dead, .dead] (.sv (.one (.bool .ff)))))))) (.imp (.not (.eq (.var 95) (.lit 0))) (.post [.ro 150 [.var 53] false, .ro 151 [.var 128] false, .dead, .dead, .dead, .dead] (.sv (.one (.bool .ff))))))) (.imp (.not (.eq (.var 36) (.lit 0))) (.post [.ro 150 [.var 53] false, .ro 151 [.var 128] false, .dead, .dead, .dead, .dead] (.sv (.one (.bool .ff))))))) (.imp (.not (.eq (.var 34) (.lit 0))) (.post [.ro 150 [.var 53] false, .ro 151 [.var 128] false, .dead, .dead, .dead, .dead] (.sv (.one (.bool .ff))))))) (.imp (.not (.eq (.var 1) (.lit 0))) (.post [.ro 150 [.var 53] false, .ro 151 [.var 128] false, .dead, .dead, .dead, .dead] (.sv (.one (.bool .ff))))))) (.imp (.not (.eq (.var 0) (.lit 0))) (.post [.ro 150 [.var 53] false, .ro 151 [.var 128] false, .dead, .dead, .dead, .dead] (.sv (.one (.bool .ff)))))))) (.imp (.not (.and (.eq (.var 57) (.lit 0)) (.and (.eq (.var 58) (.lit 0)) (.and (.eq (.var 59) (.lit 0)) (.and (.eq (.var 60) (.lit 0)) (.and (.eq (.var 61) (.lit 0)) (.eq (.var 62) (.lit 0)))))))) (.post [.ro 150 [.var 53] false, .ro 151 [.var 128] false, .dead, .dead, .dead] (.sv (.one (.bool .ff))))))) (.imp (.not (.and (.eq (.var 63) (.lit 0)) (.and (.eq (.var 64) (.lit 0)) (.and (.eq (.var 65) (.lit 0)) (.and (.eq (.var 66) (.lit 0)) (.and (.eq (.var 67) (.lit 0)) (.and (.eq (.var 68) (.lit 0)) (.and (.eq (.var 69) (.lit 0)) (.and (.eq (.var 70) (.lit 0)) (.and (.eq (.var 71) (.lit 0)) (.and (.eq (.var 72) (.lit 0)) (.and (.eq (.var 73) (.lit 0)) (.and (.eq (.var 74) (.lit 0)) (.and (.eq (.var 75) (.lit 0)) (.and (.eq (.var 76) (.lit 0)) (.and (.eq (.var 77) (.lit 0)) (.and (.eq (.var 78) (.lit 0)) (.and (.eq (.var 79) (.lit 0)) (.and (.eq (.var 80) (.lit 0)) (.and (.eq (.var 81) (.lit 0)) (.and (.eq (.var 82) (.lit 0)) (.and (.eq (.var 83) (.lit 0)) (.and (.eq (.var 84) (.lit 0)) (.and (.eq (.var 85) (.lit 0)) (.and (.eq (.var 86) (.lit 0)) (.and (.eq (.var 87) (.lit 0)) (.and (.eq (.var 88) (.lit 0)) (.and (.eq (.var 89) (.lit 0)) (.and (.eq (.var 90) (.lit 0)) (.and (.eq (.var 91) (.lit 0)) (.and (.eq (.var 92) (.lit 0)) (.and (.eq (.var 93) (.lit 0)) (.eq (.var 94) (.lit 0)))))))))))))))))))))))))))))))))) (.post [.ro 150 [.var 53] false, .ro 151 [.var 128] false, .dead, .dead, .dead] (.sv (.one (.bool .ff))))))) (.imp (.not (.and (.eq (.var 37) (.lit 0)) (.and (.eq (.var 38) (.lit 0)) (.and (.eq (.var 39) (.lit 0)) (.and (.eq (.var 40) (.lit 0)) (.and (.eq (.var 41) (.lit 0)) (.and (.eq (.var 42) (.lit 0)) (.and (.eq (.var 43) (.lit 0)) (.and (.eq (.var 44) (.lit 0)) (.and (.eq (.var 45) (.lit 0)) (.and (.eq (.var 46) (.lit 0)) (.and (.eq (.var 47) (.lit 0)) (.and (.eq (.var 48) (.lit 0)) (.and (.eq (.var 49) (.lit 0)) (.and (.eq (.var 50) (.lit 0)) (.and (.eq (.var 51) (.lit 0)) (.eq (.var 52) (.lit 0)))))))))))))))))) (.post [.ro 150 [.var 53] false, .ro 151 [.var 128] false, .dead, .dead, .dead] (.sv (.one (.bool .ff))))))) (.imp (.not (.and (.eq (.var 2) (.lit 0)) (.and (.eq (.var 3) (.lit 0)) (.and (.eq (.var 4) (.lit 0)) (.and (.eq (.var 5) (.lit 0)) (.and (.eq (.var 6) (.lit 0)) (.and (.eq (.var 7) (.lit 0)) (.and (.eq (.var 8) (.lit 0)) (.and (.eq (.var 9) (.lit 0)) (.and (.eq (.var 10) (.lit 0)) (.and (.eq (.var 11) (.lit 0)) (.and (.eq (.var 12) (.lit 0)) (.and (.eq (.var 13) (.lit 0)) (.and (.eq (.var 14) (.lit 0)) (.and (.eq (.var 15) (.lit 0)) (.and (.eq (.var 16) (.lit 0)) (.and (.eq (.var 17) (.lit 0)) (.and (.eq (.var 18) (.lit 0)) (.and (.eq (.var 19) (.lit 0)) (.and (.eq (.var 20) (.lit 0)) (.and (.eq (.var 21) (.lit 0)) (.and (.eq (.var 22) (.lit 0)) (.and (.eq (.var 23) (.lit 0)) (.and (.eq (.var 24) (.lit 0)) (.and (.eq (.var 25) (.lit 0)) (.and (.eq (.var 26) (.lit 0)) (.and (.eq (.var 27) (.lit 0)) (.and (.eq (.var 28) (.lit 0)) (.and (.eq (.var 29) (.lit 0)) (.and (.eq (.var 30) (.lit 0)) (.and (.eq (.var 31) (.lit 0)) (.and (.eq (.var 32) (.lit 0)) (.eq (.var 33) (.lit 0)))))))))))))))))))))))))))))))))) (.post [.ro 150 [.var 53] false, .ro 151 [.var 128] false, .dead, .dead, .dead] (.sv (.one (.bool .ff)))))))))) (.imp (.not (.bvar 154)) (.ext (.alloc 155) (.and (.imp (.and (.eq (.var 2) (.lit 0)) (.and (.eq (.var 3) (.lit 0)) (.and (.eq (.var 4) (.lit 0)) (.and (.eq (.var 5) (.lit 0)) (.and (.eq (.var 6) (.lit 0)) (.and (.eq (.var 7) (.lit 0)) (.and (.eq (.var 8) (.lit 0)) (.and (.eq (.var 9) (.lit 0)) (.and (.eq (.var 10) (.lit 0)) (.and (.eq (.var 11) (.lit 0)) (.and (.eq (.var 12) (.lit 0)) (.and (.eq (.var 13) (.lit 0)) (.and (.eq (.var 14) (.lit 0)) (.and (.eq (.var 15) (.lit 0)) (.and (.eq (.var 16) (.lit 0)) (.and (.eq (.var 17) (.lit 0)) (.and (.eq (.var 18) (.lit 0)) (.and (.eq (.var 19) (.lit 0)) (.and (.eq (.var 20) (.lit 0)) (.and (.eq (.var 21) (.lit 0)) (.and (.eq (.var 22) (.lit 0)) (.and (.eq (.var 23) (.lit 0)) (.and (.eq (.var 24) (.lit 0)) (.and (.eq (.var 25) (.lit 0)) (.and (.eq (.var 26) (.lit 0)) (.and (.eq (.var 27) (.lit 0)) (.and (.eq (.var 28) (.lit 0)) (.and (.eq (.var 29) (.lit 0)) (.and (.eq (.var 30) (.lit 0)) (.and (.eq (.var 31) (.lit 0)) (.and (.eq (.var 32) (.lit 0)) (.eq (.var 33) (.lit 0))))))))))))))))))))))))))))))))) (.and (.imp (.and (.eq (.var 37) (.lit 0)) (.and (.eq (.var 38) (.lit 0)) (.and (.eq (.var 39) (.lit 0)) (.and (.eq (.var 40) (.lit 0)) (.and (.eq (.var 41) (.lit 0)) (.and (.eq (.var 42) (.lit 0)) (.and (.eq (.var 43) (.lit 0)) (.and (.eq (.var 44) (.lit 0)) (.and (.eq (.var 45) (.lit 0)) (.and (.eq (.var 46) (.lit 0)) (.and (.eq (.var 47) (.lit 0)) (.and (.eq (.var 48) (.lit 0)) (.and (.eq (.var 49) (.lit 0)) (.and (.eq (.var 50) (.lit 0)) (.and (.eq (.var 51) (.lit 0)) (.eq (.var 52) (.lit 0))))))))))))))))) (.and (.imp (.and (.eq (.var 63) (.lit 0)) (.and (.eq (.var 64) (.lit 0)) (.and (.eq (.var 65) (.lit 0)) (.and (.eq (.var 66) (.lit 0)) (.and (.eq (.var 67) (.lit 0)) (.and (.eq (.var 68) (.lit 0)) (.and (.eq (.var 69) (.lit 0)) (.and (.eq (.var 70) (.lit 0)) (.and (.eq (.var 71) (.lit 0)) (.and (.eq (.var 72) (.lit 0)) (.and (.eq (.var 73) (.lit 0)) (.and (.eq (.var 74) (.lit 0)) (.and (.eq (.var 75) (.lit 0)) (.and (.eq (.var 76) (.lit 0)) (.and (.eq (.var 77) (.lit 0)) (.and (.eq (.var 78) (.lit 0)) (.and (.eq (.var 79) (.lit 0)) (.and (.eq (.var 80) (.lit 0)) (.and (.eq (.var 81) (.lit 0)) (.and (.eq (.var 82) (.lit 0)) (.and (.eq (.var 83) (.lit 0)) (.and (.eq (.var 84) (.lit 0)) (.and (.eq (.var 85) (.lit 0)) (.and (.eq (.var 86) (.lit 0)) (.and (.eq (.var 87) (.lit 0)) (.and (.eq (.var 88) (.lit 0)) (.and (.eq (.var 89) (.lit 0)) (.and (.eq (.var 90) (.lit 0)) (.and (.eq (.var 91) (.lit 0)) (.and (.eq (.var 92) (.lit 0)) (.and (.eq (.var 93) (.lit 0)) (.eq (.var 94) (.lit 0))))))))))))))))))))))))))))))))) (.and (.imp (.and (.eq (.var 57) (.lit 0)) (.and (.eq (.var 58) (.lit 0)) (.and (.eq (.var 59) (.lit 0)) (.and (.eq (.var 60) (.lit 0)) (.and (.eq (.var 61) (.lit 0)) (.eq (.var 62) (.lit 0))))))) (.ext (.alloc 156) (.and (.imp (.eq (.var 0) (.lit 0)) (.and (.imp (.eq (.var 1) (.lit 0)) (.and (.imp (.eq (.var 34) (.lit 0)) (.and (.imp (.eq (.var 36) (.lit 0)) (.and (.imp (.eq (.var 95) (.lit 0)) (.and (.e (.le (.lit 0) (.var 55))) (.and (.imp (.eq (.var 55) (.lit 0)) (.and (.imp (.and (.eq (.var 96) (.lit 0)) (.and (.eq (.var 97) (.lit 0)) (.and (.eq (.var 98) (.lit 0)) (.and (.eq (.var 99) (.lit 0)) (.and (.eq (.var 100) (.lit 0)) (.and (.eq (.var 101) (.lit 0)) (.and (.eq (.var 102) (.lit 0)) (.and (.eq (.var 103) (.lit 0)) (.and (.eq (.var 104) (.lit 0)) (.and (.eq (.var 105) (.lit 0)) (.and (.eq (.var 106) (.lit 0)) (.and (.eq (.var 107) (.lit 0)) (.and (.eq (.var 108) (.lit 0)) (.and (.eq (.var 109) (.lit 0)) (.and (.eq (.var 110) (.lit 0)) (.and (.eq (.var 111) (.lit 0)) (.and (.eq (.var 112) (.lit 0)) (.and (.eq (.var 113) (.lit 0)) (.and (.eq (.var 114) (.lit 0)) (.and (.eq (.var 115) (.lit 0)) (.and (.eq (.var 116) (.lit 0)) (.and (.eq (.var 117) (.lit 0)) (.and (.eq (.var 118) (.lit 0)) (.and (.eq (.var 119) (.lit 0)) (.and (.eq (.var 120) (.lit 0)) (.and (.eq (.var 121) (.lit 0)) (.and (.eq (.var 122) (.lit 0)) (.and (.eq (.var 123) (.lit 0)) (.and (.eq (.var 124) (.lit 0)) (.and (.eq (.var 125) (.lit 0)) (.and (.eq (.var 126) (.lit 0)) (.eq (.var 127) (.lit 0))))))))))))))))))))))))))))))))) (.and (.imp (.not (.bvar 35)) (.ext (.alloc 157) (.ext (.alloc 158) (.post [.ro 150 [.var 53] false, .ro 151 [.var 128] false, .dead, .dead, .dead, .dead, .dead, .dead] (.sv (.one (.bool .tt))))))) (.imp (.bvar 35) (.post [.ro 150 [.var 53] false, .ro 151 [.var 128] false, .dead, .dead, .dead, .dead] (.sv (.one (.bool .ff))))))) (.imp (.not (.and (.eq (.var 96) (.lit 0)) (.and (.eq (.var 97) (.lit 0)) (.and (.eq (.var 98) (.lit 0)) (.and (.eq (.var 99) (.lit 0)) (.and (.eq (.var 100) (.lit 0)) (.and (.eq (.var 101) (.lit 0)) (.and (.eq (.var 102) (.lit 0)) (.and (.eq (.var 103) (.lit 0)) (.and (.eq (.var 104) (.lit 0)) (.and (.eq (.var 105) (.lit 0)) (.and (.eq (.var 106) (.lit 0)) (.and (.eq (.var 107) (.lit 0)) (.and (.eq (.var 108) (.lit 0)) (.and (.eq (.var 109) (.lit 0)) (.and (.eq (.var 110) (.lit 0)) (.and (.eq (.var 111) (.lit 0)) (.and (.eq (.var 112) (.lit 0)) (.and (.eq (.var 113) (.lit 0)) (.and (.eq (.var 114) (.lit 0)) (.and (.eq (.var 115) (.lit 0)) (.and (.eq (.var 116) (.lit 0)) (.and (.eq (.var 117) (.lit 0)) (.and (.eq (.var 118) (.lit 0)) (.and (.eq (.var 119) (.lit 0)) (.and (.eq (.var 120) (.lit 0)) (.and (.eq (.var 121) (.lit 0)) (.and (.eq (.var 122) (.lit 0)) (.and (.eq (.var 123) (.lit 0)) (.and (.eq (.var 124) (.lit 0)) (.and (.eq (.var 125) (.lit 0)) (.and (.eq (.var 126) (.lit 0)) (.eq (.var 127) (.lit 0)))))))))))))))))))))))))))))))))) (.post [.ro 150 [.var 53] false, .ro 151 [.var 128] false, .dead, .dead, .dead, .dead] (.sv (.one (.bool .ff))))))) (.imp (.not (.eq (.var 55) (.lit 0))) (.post [.ro 150 [.var 53] false, .ro 151 [.var 128] false, .dead, .dead, .dead, .dead] (.sv (.one (.bool .ff)))))))) (.imp (.not (.eq (.var 95) (.lit 0))) (.post [.ro 150 [.var 53] false, .ro 151 [.var 128] false, .dead, .dead, .dead, .dead] (.sv (.one (.bool .ff))))))) (.imp (.not (.eq (.var 36) (.lit 0))) (.post [.ro 150 [.var 53] false, .ro 151 [.var 128] false, .dead, .dead, .dead, .dead] (.sv (.one (.bool .ff))))))) (.imp (.not (.eq (.var 34) (.lit 0))) (.post [.ro 150 [.var 53] false, .ro 151 [.var 128] false, .dead, .dead, .dead, .dead] (.sv (.one (.bool .ff))))))) (.imp (.not (.eq (.var 1) (.lit 0))) (.post [.ro 150 [.var 53] false, .ro 151 [.var 128] false, .dead, .dead, .dead, .dead] (.sv (.one (.bool .ff))))))) (.imp (.not (.eq (.var 0) (.lit 0))) (.post [.ro 150 [.var 53] false, .ro 151 [.var 128] false, .dead, .dead, .dead, .dead] (.sv (.one (.bool .ff)))))))) (.imp (.not (.and (.eq (.var 57) (.lit 0)) (.and (.eq (.var 58) (.lit 0)) (.and (.eq (.var 59) (.lit 0)) (.and (.eq (.var 60) (.lit 0)) (.and (.eq (.var 61) (.lit 0)) (.eq (.var 62) (.lit 0)))))))) (.post [.ro 150 [.var 53] false, .ro 151 [.var 128] false, .dead, .dead, .dead] (.sv (.one (.bool .ff))))))) (.imp (.not (.and (.eq (.var 63) (.lit 0)) (.and (.eq (.var 64) (.lit 0)) (.and (.eq (.var 65) (.lit 0)) (.and (.eq (.var 66) (.lit 0)) (.and (.eq (.var 67) (.lit 0)) (.and (.eq (.var 68) (.lit 0)) (.and (.eq (.var 69) (.lit 0)) (.and (.eq (.var 70) (.lit 0)) (.and (.eq (.var 71) (.lit 0)) (.and (.eq (.var 72) (.lit 0)) (.and (.eq (.var 73) (.lit 0)) (.and (.eq (.var 74) (.lit 0)) (.and (.eq (.var 75) (.lit 0)) (.and (.eq (.var 76) (.lit 0)) (.and (.eq (.var 77) (.lit 0)) (.and (.eq (.var 78) (.lit 0)) (.and (.eq (.var 79) (.lit 0)) (.and (.eq (.var 80) (.lit 0)) (.and (.eq (.var 81) (.lit 0)) (.and (.eq (.var 82) (.lit 0)) (.and (.eq (.var 83) (.lit 0)) (.and (.eq (.var 84) (.lit 0)) (.and (.eq (.var 85) (.lit 0)) (.and (.eq (.var 86) (.lit 0)) (.and (.eq (.var 87) (.lit 0)) (.and (.eq (.var 88) (.lit 0)) (.and (.eq (.var 89) (.lit 0)) (.and (.eq (.var 90) (.lit 0)) (.and (.eq (.var 91) (.lit 0)) (.and (.eq (.var 92) (.lit 0)) (.and (.eq (.var 93) (.lit 0)) (.eq (.var 94) (.lit 0)))))))))))))))))))))))))))))))))) (.post [.ro 150 [.var 53] false, .ro 151 [.var 128] false, .dead, .dead, .dead] (.sv (.one (.bool .ff))))))) (.imp (.not (.and (.eq (.var 37) (.lit 0)) (.and (.eq (.var 38) (.lit 0)) (.and (.eq (.var 39) (.lit 0)) (.and (.eq (.var 40) (.lit 0)) (.and (.eq (.var 41) (.lit 0)) (.and (.eq (.var 42) (.lit 0)) (.and (.eq (.var 43) (.lit 0)) (.and (.eq (.var 44) (.lit 0)) (.and (.eq (.var 45) (.lit 0)) (.and (.eq (.var 46) (.lit 0)) (.and (.eq (.var 47) (.lit 0)) (.and (.eq (.var 48) (.lit 0)) (.and (.eq (.var 49) (.lit 0)) (.and (.eq (.var 50) (.lit 0)) (.and (.eq (.var 51) (.lit 0)) (.eq (.var 52) (.lit 0)))))))))))))))))) (.post [.ro 150 [.var 53] false, .ro 151 [.var 128] false, .dead, .dead, .dead] (.sv (.one (.bool .ff))))))) (.imp (.not (.and (.eq (.var 2) (.lit 0)) (.and (.eq (.var 3) (.lit 0)) (.and (.eq (.var 4) (.lit 0)) (.and (.eq (.var 5) (.lit 0)) (.and (.eq (.var 6) (.lit 0)) (.and (.eq (.var 7) (.lit 0)) (.and (.eq (.var 8) (.lit 0)) (.and (.eq (.var 9) (.lit 0)) (.and (.eq (.var 10) (.lit 0)) (.and (.eq (.var 11) (.lit 0)) (.and (.eq (.var 12) (.lit 0)) (.and (.eq (.var 13) (.lit 0)) (.and (.eq (.var 14) (.lit 0)) (.and (.eq (.var 15) (.lit 0)) (.and (.eq (.var 16) (.lit 0)) (.and (.eq (.var 17) (.lit 0)) (.and (.eq (.var 18) (.lit 0)) (.and (.eq (.var 19) (.lit 0)) (.and (.eq (.var 20) (.lit 0)) (.and (.eq (.var 21) (.lit 0)) (.and (.eq (.var 22) (.lit 0)) (.and (.eq (.var 23) (.lit 0)) (.and (.eq (.var 24) (.lit 0)) (.and (.eq (.var 25) (.lit 0)) (.and (.eq (.var 26) (.lit 0)) (.and (.eq (.var 27) (.lit 0)) (.and (.eq (.var 28) (.lit 0)) (.and (.eq (.var 29) (.lit 0)) (.and (.eq (.var 30) (.lit 0)) (.and (.eq (.var 31) (.lit 0)) (.and (.eq (.var 32) (.lit 0)) (.eq (.var 33) (.lit 0)))))))))))))))))))))))))))))))))) (.post [.ro 150 [.var 53] false, .ro 151 [.var 128] false, .dead, .dead, .dead] (.sv (.one (.bool .ff))))))))))))) (.imp (.not (.eq (.var 130) (.lit 0))) (.post [.ro 150 [.var 53] false, .ro 151 [.var 128] false, .dead] (.sv (.one (.bool .ff)))))))
noncomputable def blankW : Walk Try.prog [formS 19] 21 where
  Λ := noLoops
  args := (cpSVs 0 [.agg pk2]).map .sv
  mem := [.ro 150 [.var 53] false, .ro 151 [.var 128] false]
  nv := 152
  nd := blankNd
  ok := by kernel_rfl
theorem bkg0 : [formS 19][0]? = some (formS 19) := rfl
theorem norm53 {q : Env} {l : List Ck} (h : ckNormsW 0 (hk2 ++ l) q) : 0 ≤ q.i 54 ∧ 0 ≤ q.i 55 ∧ 0 ≤ q.i 56 := by
  have e : hk2 = hk2.take 53 ++ (.sl :: hk2.drop 54) := by kernel_rfl
  rw [e, List.append_assoc, List.cons_append] at h
  have := norms_at (hk2.take 53) (.sl :: (hk2.drop 54 ++ l)) 0 h
  rw [show 0 + ckLen (hk2.take 53) = 53 by kernel_rfl] at this
  exact ⟨this.1.2.1, this.1.2.2.1, this.1.2.2.2⟩
theorem blankS_ok : blankS.OK Try.prog := by
  refine Spec.of_fn (Γ := [formS 19]) (fun t ht => ?_) ?_
  · rw [List.mem_singleton] at ht; subst ht; exact rFormS_ok
  rintro xs Hs Rs hl1 hl2 ⟨row, R1, R2, p, rfl, rfl, hx⟩
  have e0 : Hs = [] := List.length_eq_zero_iff.1 hl1
  subst e0
  obtain ⟨ρ, rfl, hn, hh⟩ := row_env [(150, R1), (151, R2)] hx.ok
  have w150 : ρ.h 150 = R1 := hh 150
  have w151 : ρ.h 151 = R2 := hh 151
  refine ⟨blankW, ρ, fun _ _ => True, fun _ _ => 0, by kernel_rfl, ⟨?_, ?_, ?_, ?_⟩, (fun _ h => nomatch h), ?_⟩
  · intro r hr ho; simp [blankW] at hr; rcases hr with rfl | rfl <;> cases ho
  · intro r hr ho; simp [blankW] at hr
    rcases hr with rfl | rfl
    · exact ⟨R1, by simp, by show (ρ.h 150).le R1; rw [w150]; exact Hl.le_refl _⟩
    · exact ⟨R2, by simp, by show (ρ.h 151).le R2; rw [w151]; exact Hl.le_refl _⟩
  · simp [blankW, Res.own]
  · intro r hr; simp [blankW] at hr; rcases hr with rfl | rfl <;> trivial
  · show Nd.holds _ _ _ blankNd
    have n128 : 0 ≤ ρ.i 129 ∧ 0 ≤ ρ.i 130 ∧ 0 ≤ ρ.i 131 := by
      have := norms_at hk2 [.sl] 0 hn
      rw [show 0 + ckLen hk2 = 128 by kernel_rfl] at this
      exact ⟨this.1.2.1, this.1.2.2.1, this.1.2.2.2⟩
    have n53 := norm53 (l := [.sl]) hn
    have out : ∀ {q : Env} {e : E} {mem : Mem}, (bev q e = true ↔ p.Blank) → postOf blankS [.agg ((ckCVs 0 pk2).map (CV.ev ρ)).toArray] [] [R1, R2] q mem (.sv (.one (.bool e))) := by
      intro q e mem he _
      exact ⟨[], [], rfl, rfl, ⟨⟨fun _ => 0, fun _ => bev q e, fun _ => .empty, fun _ => .tuple #[], fun _ => Hl.none⟩, rfl, trivial, trivial⟩, _, R1, R2, p, rfl, rfl, hx, boolV he⟩
    have ff : ∀ {q : Env} {mem : Mem}, ¬ p.Blank → postOf blankS [.agg ((ckCVs 0 pk2).map (CV.ev ρ)).toArray] [] [R1, R2] q mem (.sv (.one (.bool .ff))) := fun hf => out ⟨fun e => (by rw [bev_ff] at e; cases e), fun e => absurd e hf⟩
    have tt : ∀ {q : Env} {mem : Mem}, p.Blank → postOf blankS [.agg ((ckCVs 0 pk2).map (CV.ev ρ)).toArray] [] [R1, R2] q mem (.sv (.one (.bool .tt))) := fun hf => out ⟨fun _ => hf, fun _ => bev_tt _⟩
    have hH : IsHd R1 (hrow ρ 0) p.h := by
      have := hx.hd
      rwa [show ((ckCVs 0 pk2).map (CV.ev ρ)).take 125 = hrow ρ 0 by kernel_rfl] at this
    have hB : RdW R2 (.slice (slP (ρ.i 128) (ρ.i 129)) (ρ.i 130).toNat (ρ.i 131).toNat) p.b := by
      have := hx.body
      rwa [show ((ckCVs 0 pk2).map (CV.ev ρ)).getD 125 noV = .slice (slP (ρ.i 128) (ρ.i 129)) (ρ.i 130).toNat (ρ.i 131).toNat by kernel_rfl] at this
    have lenB : (ρ.i 130).toNat = p.b.length := by
      obtain ⟨x, y, c, e, _⟩ := hB
      simp only [Value.slice.injEq] at e
      exact e.2.1
    have lenT : (ρ.i 55).toNat = p.h.t.length := rd_len (p := slP (ρ.i 53) (ρ.i 54)) (c := (ρ.i 56).toNat) hH.tok
    have E : p.Blank ↔ p.b = [] ∧ p.h = hz := Iff.rfl
    rw [hd_zero hH, hz_iff, ← List.length_eq_zero_iff, ← List.length_eq_zero_iff (l := p.h.t)] at E
    rw [← lenB, ← lenT] at E
    obtain ⟨z1, hz1⟩ := as_int (zer ρ.i 2 32)
    obtain ⟨z2, hz2⟩ := as_int (zer ρ.i 37 16)
    obtain ⟨z3, hz3⟩ := as_int (zer ρ.i 57 6)
    obtain ⟨z4, hz4⟩ := as_int (zer ρ.i 63 32)
    obtain ⟨z5, hz5⟩ := as_int (zer ρ.i 96 32)
    obtain ⟨z6, hz6⟩ := as_int (ρ.b 35 = true)
    have hb35 : ρ.b 35 = false ↔ ¬ z6 = 1 := by rw [← hz6]; simp
    rw [hz1, hz2, hz3, hz4, hz5, hb35] at E
    rw [E] at ff tt
    generalize postOf blankS [.agg ((ckCVs 0 pk2).map (CV.ev ρ)).toArray] [] [R1, R2] = L at ff tt
    unfold blankNd
    simp only [Nd.holds, X.pre, X.rel, X.n, Src.ok, Src.len, Src.vals, true_and, and_true, if_true, Nat.mul_one, Nat.add_zero, Nat.reduceAdd, List.length_cons, List.length_nil, bT_tt, bT_ff, bT_bvar, bT_not, bT_and, bT_or, bT_ite, bT_lt, bT_le, bT_eq, bT_beq, bT_seq, bT_hB, bT_his, bT_hby, bT_hism, bT_hks, iev_lit, iev_var, iev_add, iev_sub, iev_mul, iev_wrap, iev_ite, iev_hI, iev_hP, iev_hmlen, sev_ite, sev_slit, sev_sof, sev_svar, TV.ev, SV.ev, CV.ev, List.map_cons, List.map_nil, Res.hl, cpTV, Cp.sv, Ck.cv, cpSVs, Cp.len, Ck.len, newHs_zero, newHs_one, roots_ne, bkg0, hr0, sc2, zc2, zc37, zc57, zc63, zc96]
    intro q1 g1 _
    simp only [g1.i, Nat.reduceLT]
    refine ⟨n128.2.1, fun c0 => ?_, fun c0 => ff (by omega)⟩
    intro q2 g2 _
    have G2 : Agree 152 ρ q2 := g1.trans (g2.mono (by omega))
    simp only [ag_row G2, ckLen_hk, Nat.reduceAdd, Nat.reduceLeDiff, G2.h, Nat.reduceLT, w150, hzC_ev]
    refine ⟨⟨_, R1, p.h, rfl, rfl, hH⟩, fun q3 g3 _ => ?_⟩
    have G3 : Agree 152 ρ q3 := G2.trans (g3.mono (by omega))
    refine ⟨fun _ => ⟨⟨_, Hl.none, hz, rfl, rfl, hz_is _⟩, fun q4 g4 _ q5 g5 _ => ?_⟩, fun _ q5 g5 _ => ?_⟩
    · have G5 : Agree 152 ρ q5 := (G3.trans (g4.mono (by omega))).trans (g5.mono (by omega))
      simp only [G5.i, G5.b, ag_zer G5, Nat.reduceAdd, Nat.reduceLeDiff, Nat.reduceLT, hz1, hz2, hz3, hz4, hz5]
      refine ⟨fun c1 => ⟨fun c2 => ⟨fun c3 => ⟨fun c4 q6 g6 _ => ?_, fun c => ff (by omega)⟩, fun c => ff (by omega)⟩, fun c => ff (by omega)⟩, fun c => ff (by omega)⟩
      have G6 : Agree 152 ρ q6 := G5.trans (g6.mono (by omega))
      simp only [G6.i, G6.b, ag_zer G6, Nat.reduceAdd, Nat.reduceLeDiff, Nat.reduceLT, hz1, hz2, hz3, hz4, hz5, hz6]
      exact ⟨fun d0 => ⟨fun d1 => ⟨fun d2 => ⟨fun d3 => ⟨fun d4 => ⟨n53.2.1, fun d5 => ⟨fun d6 => ⟨fun d7 _ _ _ _ _ _ => tt (by omega), fun c => ff (by omega)⟩, fun c => ff (by omega)⟩, fun c => ff (by omega)⟩, fun c => ff (by omega)⟩, fun c => ff (by omega)⟩, fun c => ff (by omega)⟩, fun c => ff (by omega)⟩, fun c => ff (by omega)⟩
    · have G5 : Agree 152 ρ q5 := G3.trans (g5.mono (by omega))
      simp only [G5.i, G5.b, ag_zer G5, Nat.reduceAdd, Nat.reduceLeDiff, Nat.reduceLT, hz1, hz2, hz3, hz4, hz5]
      refine ⟨fun c1 => ⟨fun c2 => ⟨fun c3 => ⟨fun c4 q6 g6 _ => ?_, fun c => ff (by omega)⟩, fun c => ff (by omega)⟩, fun c => ff (by omega)⟩, fun c => ff (by omega)⟩
      have G6 : Agree 152 ρ q6 := G5.trans (g6.mono (by omega))
      simp only [G6.i, G6.b, ag_zer G6, Nat.reduceAdd, Nat.reduceLeDiff, Nat.reduceLT, hz1, hz2, hz3, hz4, hz5, hz6]
      exact ⟨fun d0 => ⟨fun d1 => ⟨fun d2 => ⟨fun d3 => ⟨fun d4 => ⟨n53.2.1, fun d5 => ⟨fun d6 => ⟨fun d7 _ _ _ _ _ _ => tt (by omega), fun c => ff (by omega)⟩, fun c => ff (by omega)⟩, fun c => ff (by omega)⟩, fun c => ff (by omega)⟩, fun c => ff (by omega)⟩, fun c => ff (by omega)⟩, fun c => ff (by omega)⟩, fun c => ff (by omega)⟩
end Go.Proofs.Ytkdllpialpfopaa
