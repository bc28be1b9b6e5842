/- Layer 7: DiskTears answers true. No condition. -/
import Derived.Test.YtdohcabnaihaoaaDskJ
set_option linter.unusedSimpArgs false
set_option linter.unusedVariables false
set_option linter.constructorNameAsVariable false
namespace Go.Proofs.Ytdohcabnaihaoaa
open Go Go.Sx

theorem splice_all {l m : List Int} (h : l.length = m.length) : splice l 0 m = m := by
  unfold splice
  rw [List.take_zero, List.nil_append, List.drop_of_length_le (by omega), List.append_nil]
theorem sect0 {Z : List Int} (h : Z.length = 64) : (Z.drop 0).take 64 = Z := by rw [List.drop_zero, List.take_of_length_le (by omega)]
def oneD (Z : List Int) : DM := ⟨1, Z, [], -1, false⟩
def twoD (X Y : List Int) : DM := ⟨1, Y, [(0, X)], -1, false⟩
theorem tear1 {X : List Int} (hX : X.length = 64) : writeR (newD 1) 0 X = (0, putD (newD 1) 0 X) ∧ syncR (putD (newD 1) 0 X) = (0, oneD X) := by
  refine ⟨by rw [writeR_full rfl hX]; rfl, ?_⟩
  unfold syncR
  rw [if_neg (by show ¬ (false = true); simp), if_neg (by show ¬ ((-1 : Int) = 0); omega)]
  show (0, (⟨1, splice (List.replicate 64 0) (64 * (0 : Int).toNat) X, [], -1, false⟩ : DM)) = _
  rw [show 64 * (0 : Int).toNat = 0 from rfl, splice_all (by rw [List.length_replicate, hX])]
  rfl
theorem tear2 {X Y : List Int} (hX : X.length = 64) (hY : Y.length = 64) : writeR (oneD X) 0 Y = (0, twoD X Y) := by
  rw [writeR_full rfl hY]
  show (0, (⟨1, splice X (64 * (0 : Int).toNat) Y, [(0, (X.drop 0).take 64)], -1, false⟩ : DM)) = _
  rw [show 64 * (0 : Int).toNat = 0 from rfl, splice_all (by rw [hX, hY]), sect0 hX]
  rfl
theorem tear3 {X Y : List Int} (hX : X.length = 64) (hY : Y.length = 64) (fate : List Int) : crashD (twoD X Y) fate = oneD (tornI X Y (fateAt fate 0)) := by
  unfold crashD
  have e : sortK ((twoD X Y).loose.map (·.1)) = [0] := by unfold sortK twoD; simp
  rw [e]
  show (⟨1, splice Y (64 * (0 : Int).toNat) (tornI X ((Y.drop 0).take 64) (fateAt fate 0)), [], -1, false⟩ : DM) = _
  rw [show 64 * (0 : Int).toNat = 0 from rfl, splice_all (by rw [hY, tornI_length]), sect0 hY]
  rfl
theorem tear4 {Z : List Int} (hZ : Z.length = 64) : readR (oneD Z) 0 = (Z, 0) := by
  unfold readR
  rw [if_neg (by show ¬ (true = false); simp), if_neg (by show ¬ (false = true); simp)]
  show ((Z.drop 0).take 64, (0 : Int)) = _
  rw [sect0 hZ]
theorem tornI_get {X Y : List Int} (hX : X.length = 64) (hY : Y.length = 64) (k : Int) {j : Nat} (hj : j < 64) : (tornI X Y k)[j]? = if stays k j then Y[j]? else X[j]? := by
  unfold tornI
  rw [List.getElem?_map, List.getElem?_range hj, Option.map_some, List.getD_eq_getElem?_getD, List.getD_eq_getElem?_getD, List.getElem?_eq_getElem (by omega : j < Y.length), List.getElem?_eq_getElem (by omega : j < X.length)]
  split <;> rfl
theorem tornI_was {X Y : List Int} (hX : X.length = 64) (hY : Y.length = 64) {k : Int} (h : ∀ j : Nat, j < 64 → stays k j = false) : tornI X Y k = X := by
  apply List.ext_getElem?
  intro j
  rcases Nat.lt_or_ge j 64 with hj | hj
  · rw [tornI_get hX hY k hj, h j hj]; rfl
  · rw [List.getElem?_eq_none (by rw [tornI_length]; omega), List.getElem?_eq_none (by omega)]
theorem tornI_now {X Y : List Int} (hX : X.length = 64) (hY : Y.length = 64) {k : Int} (h : ∀ j : Nat, j < 64 → stays k j = true) : tornI X Y k = Y := by
  apply List.ext_getElem?
  intro j
  rcases Nat.lt_or_ge j 64 with hj | hj
  · rw [tornI_get hX hY k hj, h j hj]; rfl
  · rw [List.getElem?_eq_none (by rw [tornI_length]; omega), List.getElem?_eq_none (by omega)]
theorem stays_none {k : Int} (h : k = 0 ∨ k = 128) : ∀ j : Nat, j < 64 → stays k j = false := by
  intro j hj
  unfold stays
  rcases h with rfl | rfl
  · rw [if_pos (by omega), decide_eq_false_iff_not]; omega
  · rw [if_neg (by omega), decide_eq_false_iff_not]; omega
theorem stays_all {k : Int} (k0 : 0 ≤ k) (k1 : k < 256) (h : 64 ≤ k % 128) : ∀ j : Nat, j < 64 → stays k j = true := by
  intro j hj
  unfold stays
  split
  · rw [decide_eq_true_eq]; omega
  · rw [decide_eq_true_eq]; omega
theorem text_eqK {R R' : Hl} {x y l c x' y' l' c' : Int} {bs : List Int} (h : RdB R (.slice (slP x y) l.toNat c.toNat) bs) (h' : RdB R' (.slice (slP x' y') l'.toNat c'.toNat) bs) (hx : -1 ≤ x) (hy : 0 ≤ y) (hl : 0 ≤ l) (hx' : -1 ≤ x') (hy' : 0 ≤ y') (hl' : 0 ≤ l') :
    (if x = -1 then (⟨#[]⟩ : ByteArray) else bytesOf (cellInts R x.toNat y.toNat l.toNat)) = (if x' = -1 then (⟨#[]⟩ : ByteArray) else bytesOf (cellInts R' x'.toNat y'.toNat l'.toNat)) :=
  (h.text hx hy hl).2.trans (h'.text hx' hy' hl').2.symm
/-- A byte of bytes that may be read. -/
theorem RdB.cellAt {R : Hl} {x y l c : Int} {bs : List Int} (h : RdB R (.slice (slP x y) l.toNat c.toNat) bs) (hx : -1 ≤ x) (hy : 0 ≤ y) (hl : 0 ≤ l) {i : Int} (i0 : 0 ≤ i) (i1 : i < bs.length) : 0 ≤ x ∧ l = bs.length ∧ ∃ z, bs[i.toNat]? = some z ∧ R.cell x.toNat (y + i).toNat = some (.int .u8 z) := by
  obtain ⟨e, h⟩ := RdB.at h hx hy hl
  rcases h with ⟨_, h⟩ | ⟨hx, h⟩
  · subst h; simp at i1; omega
  · refine ⟨hx, e, bs[i.toNat]'(by omega), List.getElem?_eq_getElem _, ?_⟩
    rw [show (y + i).toNat = y.toNat + i.toNat by omega]
    exact h _ _ (List.getElem?_eq_getElem _)
def tearsS : Sx.Spec where
  fn := 5
  own := []
  rd := [0, 1, 2]
  res := [.one .bool]
  pre := fun xs Hs Rs => ∃ u1 u2 u3 A B Fs R1 R2 R3, xs = [u1, u2, u3] ∧ Rs = [R1, R2, R3] ∧ RdW R1 u1 A ∧ RdW R2 u2 B ∧ RdW R3 u3 Fs ∧ ∀ b ∈ Fs, 0 ≤ b ∧ b < 256
  post := fun xs Hs Rs v Hs' F => v = .bool true
abbrev tearsM : Mem := [.ro 12 [.var 0] false, .ro 13 [.var 4] false, .ro 14 [.var 8] false, .hp 16 [] [.var 16] [], .hp 20 [] [.var 20] [], .hp 34 [32, 30, 28, 26, 24] [.var 24] [], .hp 35 [] [.var 34] []]
def tearsNd : Nd := .and (.pre (.call 6 15 [] [] [])) (.ext (.call 6 15 [] [] []) (.and (.imp (.bvar 15) (.and (.e (.le (.lit 0) (.var 10))) (.and (.imp (.lt (.lit 50) (.var 10)) (.and (.pre (.call 6 16 [] [] [])) (.ext (.call 6 16 [] [] []) (.post [.ro 12 [.var 0] false, .ro 13 [.var 4] false, .ro 14 [.var 8] false] (.sv (.one (.bool (.bvar 16)))))))) (.imp (.not (.lt (.lit 50) (.var 10))) (.and (.pre (.call 1 16 [.sv (.one (.int .u8 (.lit 1))), .sv (.one (.sl (.var 0) (.var 1) (.var 2) (.var 3)))] [] [.ro 12 [.var 0] false])) (.ext (.call 1 16 [.sv (.one (.int .u8 (.lit 1))), .sv (.one (.sl (.var 0) (.var 1) (.var 2) (.var 3)))] [] [.ro 12 [.var 0] false]) (.and (.pre (.call 1 20 [.sv (.one (.int .u8 (.lit 2))), .sv (.one (.sl (.var 4) (.var 5) (.var 6) (.var 7)))] [] [.ro 13 [.var 4] false])) (.ext (.call 1 20 [.sv (.one (.int .u8 (.lit 2))), .sv (.one (.sl (.var 4) (.var 5) (.var 6) (.var 7)))] [] [.ro 13 [.var 4] false]) (.and (.pre (.call 0 24 [.sv (.one (.int .i64 (.lit 1)))] [] [])) (.ext (.call 0 24 [.sv (.one (.int .i64 (.lit 1)))] [] []) (.and (.pre (.call 2 26 [.sv (.one (.hptr (.var 24) (.var 25))), .sv (.one (.int .i64 (.lit 0))), .sv (.one (.sl (.var 16) (.var 17) (.var 18) (.var 19)))] [.hp 24 [] [.var 24] []] [.hp 16 [] [.var 16] []])) (.ext (.call 2 26 [.sv (.one (.hptr (.var 24) (.var 25))), .sv (.one (.int .i64 (.lit 0))), .sv (.one (.sl (.var 16) (.var 17) (.var 18) (.var 19)))] [.hp 24 [] [.var 24] []] [.hp 16 [] [.var 16] []]) (.and (.pre (.call 7 28 [.sv (.one (.hptr (.var 24) (.var 25)))] [.hp 26 [24] [.var 24] []] [])) (.ext (.call 7 28 [.sv (.one (.hptr (.var 24) (.var 25)))] [.hp 26 [24] [.var 24] []] []) (.and (.pre (.call 2 30 [.sv (.one (.hptr (.var 24) (.var 25))), .sv (.one (.int .i64 (.lit 0))), .sv (.one (.sl (.var 20) (.var 21) (.var 22) (.var 23)))] [.hp 28 [26, 24] [.var 24] []] [.hp 20 [] [.var 20] []])) (.ext (.call 2 30 [.sv (.one (.hptr (.var 24) (.var 25))), .sv (.one (.int .i64 (.lit 0))), .sv (.one (.sl (.var 20) (.var 21) (.var 22) (.var 23)))] [.hp 28 [26, 24] [.var 24] []] [.hp 20 [] [.var 20] []]) (.and (.pre (.call 10 32 [.sv (.one (.hptr (.var 24) (.var 25))), .sv (.one (.sl (.var 8) (.var 9) (.var 10) (.var 11)))] [.hp 30 [28, 26, 24] [.var 24] []] [.ro 14 [.var 8] false])) (.ext (.call 10 32 [.sv (.one (.hptr (.var 24) (.var 25))), .sv (.one (.sl (.var 8) (.var 9) (.var 10) (.var 11)))] [.hp 30 [28, 26, 24] [.var 24] []] [.ro 14 [.var 8] false]) (.and (.pre (.call 3 34 [.sv (.one (.hptr (.var 24) (.var 25))), .sv (.one (.int .i64 (.lit 0)))] [.hp 32 [30, 28, 26, 24] [.var 24] []] [])) (.ext (.call 3 34 [.sv (.one (.hptr (.var 24) (.var 25))), .sv (.one (.int .i64 (.lit 0)))] [.hp 32 [30, 28, 26, 24] [.var 24] []] []) (.and (.imp (.eq (.var 26) (.lit 0)) (.and (.imp (.eq (.var 28) (.lit 0)) (.and (.imp (.eq (.var 30) (.lit 0)) (.and (.imp (.eq (.var 38) (.lit 0)) (.and (.e (.le (.lit 0) (.var 36))) (.and (.imp (.not (.eq (.var 36) (.lit 64))) (.post tearsM (.sv (.one (.bool .ff))))) (.imp (.eq (.var 36) (.lit 64)) (.and (.inv 0 [⟨60, 0, .int .i64 (.lit 0)⟩] []) (.havoc 0 0 39 (.and (.imp (.lt (.var 60) (.lit 64)) (.and (.e (.le (.lit 0) (.var 34))) (.and (.e (.le (.lit 0) (.var 35))) (.and (.e (.le (.lit 0) (.var 60))) (.and (.e (.his 35 (.var 34) (.add (.var 35) (.var 60)) 0 (.int .u8))) (.and (.e (.le (.lit 0) (.var 16))) (.and (.e (.le (.lit 0) (.var 17))) (.and (.e (.lt (.var 60) (.var 18))) (.and (.e (.his 16 (.var 16) (.add (.var 17) (.var 60)) 0 (.int .u8))) (.and (.imp (.not (.eq (.hI 35 (.var 34) (.add (.var 35) (.var 60)) 0) (.hI 16 (.var 16) (.add (.var 17) (.var 60)) 0))) (.and (.e (.le (.lit 0) (.var 20))) (.and (.e (.le (.lit 0) (.var 21))) (.and (.e (.lt (.var 60) (.var 22))) (.and (.e (.his 20 (.var 20) (.add (.var 21) (.var 60)) 0 (.int .u8))) (.and (.imp (.not (.eq (.hI 35 (.var 34) (.add (.var 35) (.var 60)) 0) (.hI 20 (.var 20) (.add (.var 21) (.var 60)) 0))) (.post tearsM (.sv (.one (.bool .ff))))) (.imp (.eq (.hI 35 (.var 34) (.add (.var 35) (.var 60)) 0) (.hI 20 (.var 20) (.add (.var 21) (.var 60)) 0)) (.back 0 0 [⟨60, 0, .int .i64 (.wrap .i64 (.add (.var 60) (.lit 1)))⟩] [])))))))) (.imp (.eq (.hI 35 (.var 34) (.add (.var 35) (.var 60)) 0) (.hI 16 (.var 16) (.add (.var 17) (.var 60)) 0)) (.back 0 0 [⟨60, 0, .int .i64 (.wrap .i64 (.add (.var 60) (.lit 1)))⟩] [])))))))))))) (.imp (.not (.lt (.var 60) (.lit 64))) (.and (.imp (.not (.eq (.var 10) (.lit 0))) (.and (.e (.le (.lit 0) (.var 8))) (.and (.e (.le (.lit 0) (.var 9))) (.and (.e (.lt (.lit 0) (.var 10))) (.and (.e (.his 14 (.var 8) (.var 9) 0 (.int .u8))) (.and (.imp (.not (.eq (.hI 14 (.var 8) (.var 9) 0) (.lit 0))) (.and (.imp (.eq (.hI 14 (.var 8) (.var 9) 0) (.lit 128)) (.and (.e (.or (.eq (.var 34) (.lit (-1))) (.and (.le (.lit 0) (.var 34)) (.and (.le (.lit 0) (.var 35)) (.hby 35 (.var 34) (.var 35) (.var 36)))))) (.and (.e (.or (.eq (.var 16) (.lit (-1))) (.and (.le (.lit 0) (.var 16)) (.and (.le (.lit 0) (.var 17)) (.hby 16 (.var 16) (.var 17) (.var 18)))))) (.post tearsM (.sv (.one (.bool (.seq (.ite (.eq (.var 34) (.lit (-1))) (.slit ⟨#[]⟩) (.sof 35 (.var 34) (.var 35) (.var 36))) (.ite (.eq (.var 16) (.lit (-1))) (.slit ⟨#[]⟩) (.sof 16 (.var 16) (.var 17) (.var 18))))))))))) (.imp (.not (.eq (.hI 14 (.var 8) (.var 9) 0) (.lit 128))) (.and (.imp (.not (.lt (.rem (.hI 14 (.var 8) (.var 9) 0) (.lit 128)) (.lit 64))) (.and (.e (.or (.eq (.var 34) (.lit (-1))) (.and (.le (.lit 0) (.var 34)) (.and (.le (.lit 0) (.var 35)) (.hby 35 (.var 34) (.var 35) (.var 36)))))) (.and (.e (.or (.eq (.var 20) (.lit (-1))) (.and (.le (.lit 0) (.var 20)) (.and (.le (.lit 0) (.var 21)) (.hby 20 (.var 20) (.var 21) (.var 22)))))) (.post tearsM (.sv (.one (.bool (.seq (.ite (.eq (.var 34) (.lit (-1))) (.slit ⟨#[]⟩) (.sof 35 (.var 34) (.var 35) (.var 36))) (.ite (.eq (.var 20) (.lit (-1))) (.slit ⟨#[]⟩) (.sof 20 (.var 20) (.var 21) (.var 22))))))))))) (.imp (.lt (.rem (.hI 14 (.var 8) (.var 9) 0) (.lit 128)) (.lit 64)) (.post tearsM (.sv (.one (.bool .tt))))))))) (.imp (.eq (.hI 14 (.var 8) (.var 9) 0) (.lit 0)) (.and (.e (.or (.eq (.var 34) (.lit (-1))) (.and (.le (.lit 0) (.var 34)) (.and (.le (.lit 0) (.var 35)) (.hby 35 (.var 34) (.var 35) (.var 36)))))) (.and (.e (.or (.eq (.var 16) (.lit (-1))) (.and (.le (.lit 0) (.var 16)) (.and (.le (.lit 0) (.var 17)) (.hby 16 (.var 16) (.var 17) (.var 18)))))) (.post tearsM (.sv (.one (.bool (.seq (.ite (.eq (.var 34) (.lit (-1))) (.slit ⟨#[]⟩) (.sof 35 (.var 34) (.var 35) (.var 36))) (.ite (.eq (.var 16) (.lit (-1))) (.slit ⟨#[]⟩) (.sof 16 (.var 16) (.var 17) (.var 18))))))))))))))))) (.imp (.eq (.var 10) (.lit 0)) (.and (.e (.or (.eq (.var 34) (.lit (-1))) (.and (.le (.lit 0) (.var 34)) (.and (.le (.lit 0) (.var 35)) (.hby 35 (.var 34) (.var 35) (.var 36)))))) (.and (.e (.or (.eq (.var 16) (.lit (-1))) (.and (.le (.lit 0) (.var 16)) (.and (.le (.lit 0) (.var 17)) (.hby 16 (.var 16) (.var 17) (.var 18)))))) (.post tearsM (.sv (.one (.bool (.seq (.ite (.eq (.var 34) (.lit (-1))) (.slit ⟨#[]⟩) (.sof 35 (.var 34) (.var 35) (.var 36))) (.ite (.eq (.var 16) (.lit (-1))) (.slit ⟨#[]⟩) (.sof 16 (.var 16) (.var 17) (.var 18)))))))))))))))))))) (.imp (.not (.eq (.var 38) (.lit 0))) (.post tearsM (.sv (.one (.bool .ff))))))) (.imp (.not (.eq (.var 30) (.lit 0))) (.post tearsM (.sv (.one (.bool .ff))))))) (.imp (.not (.eq (.var 28) (.lit 0))) (.post tearsM (.sv (.one (.bool .ff))))))) (.imp (.not (.eq (.var 26) (.lit 0))) (.post tearsM (.sv (.one (.bool .ff)))))))))))))))))))))))))) (.imp (.not (.bvar 15)) (.and (.pre (.call 6 16 [] [] [])) (.ext (.call 6 16 [] [] []) (.post [.ro 12 [.var 0] false, .ro 13 [.var 4] false, .ro 14 [.var 8] false] (.sv (.one (.bool (.bvar 16))))))))))
def tearsW : Walk Try.prog lawΓ tearsS.fn where
  Λ := fun p => if lp p then some ⟨0, [(15, TI .i64 (.var 60))], [], 61⟩ else none
  args := [.sv (.one (.sl (.var 0) (.var 1) (.var 2) (.var 3))), .sv (.one (.sl (.var 4) (.var 5) (.var 6) (.var 7))), .sv (.one (.sl (.var 8) (.var 9) (.var 10) (.var 11)))]
  mem := [.ro 12 [.var 0] false, .ro 13 [.var 4] false, .ro 14 [.var 8] false]
  nv := 15
  nd := tearsNd
  ok := by kernel_rfl
def tearsInv (_ : Nat) (q : Env) : Prop := 0 ≤ q.i 60 ∧ q.i 60 ≤ 64
theorem tearsS_ok : tearsS.OK Try.prog := by
  refine Spec.of_fn (Γ := lawΓ) lawΓ_ok ?_
  rintro xs Hs Rs hl1 hl2 ⟨u1, u2, u3, A, B, Fs, R1, R2, R3, rfl, rfl, ⟨x1, y1, c1, rfl, hy1, hR1⟩, ⟨x2, y2, c2, rfl, hy2, hR2⟩, ⟨x3, y3, c3, rfl, hy3, hR3⟩, hFb⟩
  have e0 : Hs = [] := List.length_eq_zero_iff.1 hl1
  subst e0
  refine ⟨tearsW, envI [x1, y1, A.length, c1, x2, y2, B.length, c2, x3, y3, Fs.length, c3] false (List.replicate 12 Hl.none ++ [R1, R2, R3]), tearsInv, fun _ q => (64 - q.i 60).toNat, rfl, ⟨?_, ?_, ?_, ?_⟩, (fun _ h => nomatch h), ?_⟩
  · intro r hr ho; simp [tearsW] at hr; rcases hr with rfl | rfl | rfl <;> cases ho
  · intro r hr ho
    simp [tearsW] at hr
    rcases hr with rfl | rfl | rfl
    · exact ⟨R1, by simp, Hl.le_refl _⟩
    · exact ⟨R2, by simp, Hl.le_refl _⟩
    · exact ⟨R3, by simp, Hl.le_refl _⟩
  · simp [tearsW, Res.own]
  · intro r hr; simp [tearsW] at hr; rcases hr with rfl | rfl | rfl <;> trivial
  · show Nd.holds _ _ _ tearsNd
    generalize hρ : envI [x1, y1, A.length, c1, x2, y2, B.length, c2, x3, y3, Fs.length, c3] false (List.replicate 12 Hl.none ++ [R1, R2, R3]) = ρ
    have v0 : ρ.i 0 = x1 := by rw [← hρ]; rfl
    have v1 : ρ.i 1 = y1 := by rw [← hρ]; rfl
    have v2 : ρ.i 2 = A.length := by rw [← hρ]; rfl
    have v3 : ρ.i 3 = c1 := by rw [← hρ]; rfl
    have v4 : ρ.i 4 = x2 := by rw [← hρ]; rfl
    have v5 : ρ.i 5 = y2 := by rw [← hρ]; rfl
    have v6 : ρ.i 6 = B.length := by rw [← hρ]; rfl
    have v7 : ρ.i 7 = c2 := by rw [← hρ]; rfl
    have v8 : ρ.i 8 = x3 := by rw [← hρ]; rfl
    have v9 : ρ.i 9 = y3 := by rw [← hρ]; rfl
    have v10 : ρ.i 10 = Fs.length := by rw [← hρ]; rfl
    have v11 : ρ.i 11 = c3 := by rw [← hρ]; rfl
    have w12 : ρ.h 12 = R1 := by rw [← hρ]; rfl
    have w13 : ρ.h 13 = R2 := by rw [← hρ]; rfl
    have w14 : ρ.h 14 = R3 := by rw [← hρ]; rfl
    have rA : ∀ q, Agree 15 ρ q → RdW (q.h 12) (.slice (slP (q.i 0) (q.i 1)) (q.i 2).toNat (q.i 3).toNat) A := fun q g => by
      rw [g.h 12 (by omega), g.i 0 (by omega), g.i 1 (by omega), g.i 2 (by omega), g.i 3 (by omega), v0, v1, v2, v3, w12, Int.toNat_natCast, Int.toNat_natCast]
      exact ⟨x1, y1, c1, rfl, hy1, hR1⟩
    have rB : ∀ q, Agree 15 ρ q → RdW (q.h 13) (.slice (slP (q.i 4) (q.i 5)) (q.i 6).toNat (q.i 7).toNat) B := fun q g => by
      rw [g.h 13 (by omega), g.i 4 (by omega), g.i 5 (by omega), g.i 6 (by omega), g.i 7 (by omega), v4, v5, v6, v7, w13, Int.toNat_natCast, Int.toNat_natCast]
      exact ⟨x2, y2, c2, rfl, hy2, hR2⟩
    have rF : ∀ q, Agree 15 ρ q → RdW (q.h 14) (.slice (slP (q.i 8) (q.i 9)) (q.i 10).toNat (q.i 11).toNat) Fs := fun q g => by
      rw [g.h 14 (by omega), g.i 8 (by omega), g.i 9 (by omega), g.i 10 (by omega), g.i 11 (by omega), v8, v9, v10, v11, w14, Int.toNat_natCast, Int.toNat_natCast]
      exact ⟨x3, y3, c3, rfl, hy3, hR3⟩
    unfold tearsNd
    simp only [Nd.holds, X.pre, X.rel, X.n, Src.ok, Src.len, Src.vals, true_and, and_true, if_true, Nat.mul_one, Nat.add_zero, Nat.reduceAdd, List.length_cons, List.length_nil, bT_tt, bT_ff, bT_bvar, bT_not, bT_and, bT_or, bT_ite, bT_lt, bT_le, bT_eq, bT_beq, bT_seq, bT_hB, bT_his, bT_hby, bT_hism, bT_hks, iev_lit, iev_var, iev_rem, iev_quo, iev_add, iev_sub, iev_mul, iev_wrap, iev_ite, iev_hI, iev_hP, iev_hmlen, sev_ite, sev_slit, sev_sof, sev_svar, TV.ev, SV.ev, CV.ev, List.map_cons, List.map_nil, Res.hl, cpTV, Cp.sv, Ck.cv, cpSVs, Cp.len, Ck.len, newHs_zero, newHs_one, roots_ne, cpNorms, cpNorm, ckNorm, lg0, lg1, lg2, lg3, lg4, lg5, lg6, lg7, lg8, lg9, lg10, dc0, dc1, dc3, dr0, dr1, dr2, dr3, dr4, dr5, dr6, dr7, dr8, dr9, dr10, forall_const]
    have yes : ∀ (q : Env) (mem : Mem) (e : E), bev q e = true → postOf tearsS [.slice (slP x1 y1) A.length c1, .slice (slP x2 y2) B.length c2, .slice (slP x3 y3) Fs.length c3] [] [R1, R2, R3] q mem (.sv (.one (.bool e))) := fun q mem e he _ =>
      ⟨[], [], rfl, rfl, ⟨⟨fun _ => 0, fun _ => true, fun _ => .empty, fun _ => .tuple #[], fun _ => Hl.none⟩, by show Value.bool (bev q e) = .bool true; rw [he], trivial, trivial⟩, by show Value.bool (bev q e) = .bool true; rw [he]⟩
    refine ⟨rfl, fun q1 g1 ⟨_, hv1, _⟩ => ⟨fun _ => ⟨?_, fun h50 => ⟨rfl, fun q2 g2 ⟨_, hv2, _⟩ => yes _ _ _ ?_⟩, fun h50 => ?_⟩, fun h => ?_⟩⟩
    · rw [g1.i 10 (by omega), v10]; omega
    · have hv2 : Value.bool (q2.b 16) = .bool true := hv2
      rw [bev_bvar]
      simpa using hv2
    rotate_left
    · refine absurd ?_ h
      have hv1 : Value.bool (q1.b 15) = .bool true := hv1
      simpa using hv1
    have G1 : Agree 15 ρ q1 := g1
    refine ⟨⟨1, _, A, _, rfl, rfl, rA q1 G1⟩, fun q2 g2 ⟨F2, ⟨c, u, bs, R, hx, hR, hrd, how⟩, hF2, n16, n17, n18, n19⟩ => ?_⟩
    cases hx; cases hR
    have hF2 := hF2 (by simp [cpRoots, Cp.roots, Ck.root])
    subst hF2
    have e2 := hrd.uniq (rA q1 G1)
    subst e2
    obtain ⟨X, hX⟩ : ∃ X, X = fullL 1 bs := ⟨_, rfl⟩
    rw [← hX] at how
    have hXl : X.length = 64 := by rw [hX]; exact fullL_length _ _
    have G2 : Agree 15 ρ q2 := G1.trans (g2.mono (by omega))
    refine ⟨⟨2, _, B, _, rfl, rfl, rB q2 G2⟩, fun q3 g3 ⟨F3, ⟨c, u, bs2, R, hx, hR, hrd, how3⟩, hF3, n20, n21, n22, n23⟩ => ?_⟩
    cases hx; cases hR
    have hF3 := hF3 (by simp [cpRoots, Cp.roots, Ck.root])
    subst hF3
    have e2 := hrd.uniq (rB q2 G2)
    subst e2
    obtain ⟨Y, hY⟩ : ∃ Y, Y = fullL 2 bs2 := ⟨_, rfl⟩
    rw [← hY] at how3
    have hYl : Y.length = 64 := by rw [hY]; exact fullL_length _ _
    have G3 : Agree 15 ρ q3 := G2.trans (g3.mono (by omega))
    refine ⟨⟨1, rfl⟩, fun q4 g4 ⟨F4, ⟨n', hn, hD4⟩, hF4, _⟩ => ?_⟩
    cases hn
    have hF4 := hF4 (by simp [cpRoots, Cp.roots, Ck.root])
    subst hF4
    have oX : ∀ q, Agree 20 q2 q → RdB (q.h 16) (.slice (slP (q.i 16) (q.i 17)) (q.i 18).toNat (q.i 19).toNat) X ∧ -1 ≤ q.i 16 ∧ 0 ≤ q.i 17 ∧ 0 ≤ q.i 18 := fun q g => by
      rw [g.h 16 (by omega), g.i 16 (by omega), g.i 17 (by omega), g.i 18 (by omega), g.i 19 (by omega)]
      exact ⟨how.rd, n16, n17, n18⟩
    have oY : ∀ q, Agree 24 q3 q → RdB (q.h 20) (.slice (slP (q.i 20) (q.i 21)) (q.i 22).toNat (q.i 23).toNat) Y ∧ -1 ≤ q.i 20 ∧ 0 ≤ q.i 21 ∧ 0 ≤ q.i 22 := fun q g => by
      rw [g.h 20 (by omega), g.i 20 (by omega), g.i 21 (by omega), g.i 22 (by omega), g.i 23 (by omega)]
      exact ⟨how3.rd, n20, n21, n22⟩
    have g24 : Agree 20 q2 q4 := g3.trans (g4.mono (by omega))
    obtain ⟨t1, t2⟩ := tear1 hXl
    refine ⟨⟨_, 0, _, X, _, _, _, rfl, rfl, rfl, hD4, (oX q4 g24).1⟩, fun q5 g5 ⟨_, ⟨p, i', u, bs3, H, R, D, H', hp, hH, hR, hDD, hrd', hH', hD5, hv5⟩, _⟩ => ?_⟩
    cases hp; cases hH; cases hH'; cases hR
    have e := hDD.uniq hD4
    subst e
    have e2 := hrd'.uniq (oX q4 g24).1
    subst e2
    rw [t1] at hv5 hD5
    simp only [Value.int.injEq, true_and] at hv5
    have hD5 : DiskAt (q5.h 26) (.pointer (slP (q5.i 24) (q5.i 25))) (putD (newD 1) 0 bs3) := by rw [g5.i 24 (by omega), g5.i 25 (by omega)]; exact hD5
    refine ⟨⟨_, _, _, rfl, rfl, hD5⟩, fun q6 g6 ⟨_, ⟨p, H, D, H', hp, hH, hDD, hH', hD6, hv6⟩, _⟩ => ?_⟩
    cases hp; cases hH; cases hH'
    have e := hDD.uniq hD5
    subst e
    rw [t2] at hv6 hD6
    simp only [Value.int.injEq, true_and] at hv6
    have hD6 : DiskAt (q6.h 28) (.pointer (slP (q6.i 24) (q6.i 25))) (oneD bs3) := by rw [g6.i 24 (by omega), g6.i 25 (by omega)]; exact hD6
    have g36 : Agree 24 q3 q6 := (g4.trans (g5.mono (by omega))).trans (g6.mono (by omega))
    refine ⟨⟨_, 0, _, Y, _, _, _, rfl, rfl, rfl, hD6, (oY q6 g36).1⟩, fun q7 g7 ⟨_, ⟨p, i', u, bs4, H, R, D, H', hp, hH, hR, hDD, hrd', hH', hD7, hv7⟩, _⟩ => ?_⟩
    cases hp; cases hH; cases hH'; cases hR
    have e := hDD.uniq hD6
    subst e
    have e2 := hrd'.uniq (oY q6 g36).1
    subst e2
    rw [tear2 hXl hYl] at hv7 hD7
    simp only [Value.int.injEq, true_and] at hv7
    have hD7 : DiskAt (q7.h 30) (.pointer (slP (q7.i 24) (q7.i 25))) (twoD bs3 bs4) := by rw [g7.i 24 (by omega), g7.i 25 (by omega)]; exact hD7
    have G7 : Agree 15 ρ q7 := (G3.trans (g36.mono (by omega))).trans (g7.mono (by omega))
    refine ⟨⟨_, _, Fs, _, _, _, rfl, rfl, rfl, hD7, rF q7 G7, hFb, by show 1 ≤ 1000000; omega⟩, fun q8 g8 ⟨_, ⟨p, u, bs5, H, R, D, H', hp, hH, hR, hDD, hrd', hH', hD8⟩, _⟩ => ?_⟩
    cases hp; cases hH; cases hH'; cases hR
    have e := hDD.uniq hD7
    subst e
    have e2 := hrd'.uniq (rF q7 G7)
    subst e2
    rw [tear3 hXl hYl] at hD8
    obtain ⟨k, hk⟩ : ∃ k, k = fateAt bs5 0 := ⟨_, rfl⟩
    rw [← hk] at hD8
    obtain ⟨Z, hZ⟩ : ∃ Z, Z = tornI bs3 bs4 k := ⟨_, rfl⟩
    rw [← hZ] at hD8
    have hZl : Z.length = 64 := by rw [hZ]; exact tornI_length _ _ _
    have hD8 : DiskAt (q8.h 32) (.pointer (slP (q8.i 24) (q8.i 25))) (oneD Z) := by rw [g8.i 24 (by omega), g8.i 25 (by omega)]; exact hD8
    refine ⟨⟨_, 0, _, _, rfl, rfl, hD8⟩, fun q9 g9 ⟨F9, ⟨p, i, H, D, H', u, hp, hH, hDD, hH', hD9, hv9, how9⟩, hF9, n34, n35, n36, n37⟩ => ?_⟩
    cases hp; cases hH; cases hH'
    have hF9 := hF9 (by simp [cpRoots, Cp.roots, Ck.root])
    subst hF9
    have e := hDD.uniq hD8
    subst e
    rw [tear4 hZl] at hv9 how9
    have hv9 : [Value.slice (slP (q9.i 34) (q9.i 35)) (q9.i 36).toNat (q9.i 37).toNat, Value.int .i64 (q9.i 38)] = [u, .int .i64 0] := congrArg Array.toList (Value.tuple.inj hv9)
    simp only [List.cons.injEq, Value.int.injEq, true_and, and_true] at hv9
    obtain ⟨hu, h38⟩ := hv9
    subst hu
    have rZ : RdB (q9.h 35) (.slice (slP (q9.i 34) (q9.i 35)) (q9.i 36).toNat (q9.i 37).toNat) Z := how9.rd
    have l36 : q9.i 36 = 64 := by
      have := (RdB.at (x := q9.i 34) (y := q9.i 35) (l := q9.i 36) (c := q9.i 37) rZ n34 n35 n36).1
      omega
    have g79 : Agree 32 q7 q9 := g8.trans (g9.mono (by omega))
    have h26 : q9.i 26 = 0 := by rw [g79.i 26 (by omega), g7.i 26 (by omega), g6.i 26 (by omega), hv5]
    have h28 : q9.i 28 = 0 := by rw [g79.i 28 (by omega), g7.i 28 (by omega), hv6]
    have h30 : q9.i 30 = 0 := by rw [g79.i 30 (by omega), hv7]
    refine ⟨fun _ => ⟨fun _ => ⟨fun _ => ⟨fun _ => ⟨n36, fun h => absurd l36 h, fun _ => ?_⟩, fun h => absurd h38 h⟩, fun h => absurd h30 h⟩, fun h => absurd h28 h⟩, fun h => absurd h26 h⟩
    refine ⟨⟨by show (0 : Int) ≤ 0; omega, by show (0 : Int) ≤ 64; omega⟩, fun q g ⟨i0, i1⟩ => ?_⟩
    have a29 : Agree 20 q2 q9 := (g24.trans ((g5.trans (g6.mono (by omega))).mono (by omega))).trans ((g7.mono (by omega)).trans (g79.mono (by omega)))
    have a39 : Agree 24 q3 q9 := g36.trans ((g7.mono (by omega)).trans (g79.mono (by omega)))
    obtain ⟨rX, x0, x1', x2'⟩ := oX q (a29.trans (g.mono (by omega)))
    obtain ⟨rY, z0, z1, z2⟩ := oY q (a39.trans (g.mono (by omega)))
    have rZ : RdB (q.h 35) (.slice (slP (q.i 34) (q.i 35)) (q.i 36).toNat (q.i 37).toNat) Z ∧ -1 ≤ q.i 34 ∧ 0 ≤ q.i 35 ∧ 0 ≤ q.i 36 := by
      rw [g.h 35 (by omega), g.i 34 (by omega), g.i 35 (by omega), g.i 36 (by omega), g.i 37 (by omega)]
      exact ⟨rZ, n34, n35, n36⟩
    obtain ⟨rZ, m34, m35, m36⟩ := rZ
    have Gq : Agree 15 ρ q := (G7.trans (g79.mono (by omega))).trans (g.mono (by omega))
    refine ⟨fun hlt => ?_, fun hge => ?_⟩
    · obtain ⟨p0, p1, z, pz, pc⟩ := RdB.cellAt rZ m34 m35 m36 i0 (by omega)
      obtain ⟨s0, s1, x, sx, sc⟩ := RdB.cellAt rX x0 x1' x2' i0 (by omega)
      obtain ⟨r0, r1, y, ry, rc⟩ := RdB.cellAt rY z0 z1 z2 i0 (by omega)
      have hz := tornI_get hXl hYl k (j := (q.i 60).toNat) (by omega)
      rw [← hZ, pz, sx, ry] at hz
      have back : tearsInv 0 (assign q [⟨60, 0, .int .i64 (.wrap .i64 (.add (.var 60) (.lit 1)))⟩] []) ∧ (64 - (assign q [⟨60, 0, .int .i64 (.wrap .i64 (.add (.var 60) (.lit 1)))⟩] []).i 60).toNat < (64 - q.i 60).toNat := by
        have m60 : (assign q [⟨60, 0, .int .i64 (.wrap .i64 (.add (.var 60) (.lit 1)))⟩] []).i 60 = q.i 60 + 1 := by
          show IntKind.i64.wrap (q.i 60 + 1) = _
          exact wrap_i64 (by omega) (by omega)
        unfold tearsInv
        rw [m60]
        omega
      rw [pc, sc, rc]
      refine ⟨p0, m35, i0, rfl, s0, x1', by omega, rfl, fun hne => ⟨r0, z1, by omega, rfl, fun hne2 => ?_, fun _ => back⟩, fun _ => back⟩
      have hne : ¬ z = x := hne
      have hne2 : ¬ z = y := hne2
      split at hz <;> simp at hz
      · exact absurd hz hne2
      · exact absurd hz hne
    · have tX : Z = bs3 → (if q.i 34 = -1 then (⟨#[]⟩ : ByteArray) else bytesOf (cellInts (q.h 35) (q.i 34).toNat (q.i 35).toNat (q.i 36).toNat)) = (if q.i 16 = -1 then (⟨#[]⟩ : ByteArray) else bytesOf (cellInts (q.h 16) (q.i 16).toNat (q.i 17).toNat (q.i 18).toNat)) := fun h => by
        rw [h] at rZ
        exact text_eqK rZ rX m34 m35 m36 x0 x1' x2'
      have tY : Z = bs4 → (if q.i 34 = -1 then (⟨#[]⟩ : ByteArray) else bytesOf (cellInts (q.h 35) (q.i 34).toNat (q.i 35).toNat (q.i 36).toNat)) = (if q.i 20 = -1 then (⟨#[]⟩ : ByteArray) else bytesOf (cellInts (q.h 20) (q.i 20).toNat (q.i 21).toNat (q.i 22).toNat)) := fun h => by
        rw [h] at rZ
        exact text_eqK rZ rY m34 m35 m36 z0 z1 z2
      have okZ := (RdB.text rZ m34 m35 m36).1
      have okX := (RdB.text rX x0 x1' x2').1
      have okY := (RdB.text rY z0 z1 z2).1
      have l10 : q.i 10 = bs5.length := by rw [Gq.i 10 (by omega), v10]
      have fin : ∀ (mem : Mem) (e : E), bev q e = true → postOf tearsS [.slice (slP x1 y1) bs.length c1, .slice (slP x2 y2) bs2.length c2, .slice (slP x3 y3) bs5.length c3] [] [R1, R2, R3] q mem (.sv (.one (.bool e))) := fun mem e he => yes q mem e he
      refine ⟨fun hne => ?_, fun he => ?_⟩
      · have hl : 0 < bs5.length := by omega
        have hne' : bs5 ≠ [] := by rintro rfl; simp at hl
        have hxr : 0 ≤ x3 ∧ ∀ j z, bs5[j]? = some z → R3.cell x3.toNat (y3.toNat + j) = some (.int .u8 z) := by
          rcases hR3 with h | h
          · exact absurd h hne'
          · exact h
        have hk' : k = bs5[0] := by
          rw [hk]
          unfold fateAt
          rw [if_neg hne', Nat.zero_mod, List.getD_eq_getElem?_getD, List.getElem?_eq_getElem hl]; rfl
        have hc : (q.h 14).cell (q.i 8).toNat ((q.i 9).toNat + 0) = some (.int .u8 k) := by
          rw [Gq.h 14 (by omega), Gq.i 8 (by omega), Gq.i 9 (by omega), v8, v9, w14, hk']
          exact hxr.2 _ _ (List.getElem?_eq_getElem hl)
        have hc' : (q.h 14).cell (q.i 8).toNat (q.i 9).toNat = some (.int .u8 k) := hc
        have kr : 0 ≤ k ∧ k < 256 := by rw [hk]; exact fateAt_range hFb 0
        rw [hc']
        refine ⟨by rw [Gq.i 8 (by omega), v8]; exact hxr.1, by rw [Gq.i 9 (by omega), v9]; exact hy3, by omega, rfl, fun h0 => ⟨fun h128 => ?_, fun h128 => ⟨fun h64 => ?_, fun h64 => ?_⟩⟩, fun h0 => ?_⟩
        · refine ⟨okZ, okX, fin _ _ ?_⟩
          simp only [bT_tt, bT_ff, bT_bvar, bT_not, bT_and, bT_or, bT_ite, bT_lt, bT_le, bT_eq, bT_beq, bT_seq, bT_hB, bT_his, bT_hby, bT_hism, bT_hks, iev_lit, iev_var, iev_rem, iev_quo, iev_add, iev_sub, iev_mul, iev_wrap, iev_ite, iev_hI, iev_hP, iev_hmlen, sev_ite, sev_slit, sev_sof, sev_svar]
          exact tX (by rw [hZ]; exact tornI_was hXl hYl (stays_none (Or.inr h128)))
        · refine ⟨okZ, okY, fin _ _ ?_⟩
          simp only [bT_tt, bT_ff, bT_bvar, bT_not, bT_and, bT_or, bT_ite, bT_lt, bT_le, bT_eq, bT_beq, bT_seq, bT_hB, bT_his, bT_hby, bT_hism, bT_hks, iev_lit, iev_var, iev_rem, iev_quo, iev_add, iev_sub, iev_mul, iev_wrap, iev_ite, iev_hI, iev_hP, iev_hmlen, sev_ite, sev_slit, sev_sof, sev_svar]
          have h64 : ¬ (k.tmod 128 < 64) := h64
          rw [Int.tmod_eq_emod_of_nonneg kr.1] at h64
          exact tY (by rw [hZ]; exact tornI_now hXl hYl (stays_all kr.1 kr.2 (by omega)))
        · exact fin _ _ rfl
        · refine ⟨okZ, okX, fin _ _ ?_⟩
          simp only [bT_tt, bT_ff, bT_bvar, bT_not, bT_and, bT_or, bT_ite, bT_lt, bT_le, bT_eq, bT_beq, bT_seq, bT_hB, bT_his, bT_hby, bT_hism, bT_hks, iev_lit, iev_var, iev_rem, iev_quo, iev_add, iev_sub, iev_mul, iev_wrap, iev_ite, iev_hI, iev_hP, iev_hmlen, sev_ite, sev_slit, sev_sof, sev_svar]
          exact tX (by rw [hZ]; exact tornI_was hXl hYl (stays_none (Or.inl h0)))
      · have hn : bs5 = [] := List.length_eq_zero_iff.1 (by omega)
        refine ⟨okZ, okX, fin _ _ ?_⟩
        simp only [bT_tt, bT_ff, bT_bvar, bT_not, bT_and, bT_or, bT_ite, bT_lt, bT_le, bT_eq, bT_beq, bT_seq, bT_hB, bT_his, bT_hby, bT_hism, bT_hks, iev_lit, iev_var, iev_rem, iev_quo, iev_add, iev_sub, iev_mul, iev_wrap, iev_ite, iev_hI, iev_hP, iev_hmlen, sev_ite, sev_slit, sev_sof, sev_svar]
        exact tX (by rw [hZ]; exact tornI_was hXl hYl (stays_none (Or.inl (by rw [hk, hn]; rfl))))
end Go.Proofs.Ytdohcabnaihaoaa
