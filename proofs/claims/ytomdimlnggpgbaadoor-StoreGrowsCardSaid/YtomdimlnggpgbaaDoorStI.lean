/- Layer 9: Add as a contract. No condition. -/
import Derived.Test.YtomdimlnggpgbaaDoorStH
set_option linter.unusedSimpArgs false
set_option linter.unusedVariables false
set_option linter.constructorNameAsVariable false
namespace Go.Proofs.YtomdimlnggpgbaaDoor
open Go Go.Sx Go.Pk
open Go.Proofs.YtomdimlnggpgbaaDoor.D hiding envI noLoops numS

theorem RowsR.rep {F : Hl} {v : Value} {rows : List (List Int)} (h : RowsR F v rows) : ∃ (x : Int) (c : Nat), -1 ≤ x ∧ v = .slice (slP x 0) rows.length c := by
  obtain ⟨us, ho, _⟩ := h
  rcases ho.2 with ⟨h, hn⟩ | ⟨g, cap, cur, h, _⟩
  · exact ⟨-1, 0, by omega, by rw [slP_nil, hn]; exact h⟩
  · exact ⟨g, cap, by omega, by rw [slP_pos (by omega)]; simpa using h⟩
structure AdR where
  e : Int
  D : DM
  S : SM
/-- What comes of an appending of packed rows. -/
def addD (D : DM) (S : SM) (rows : List (List Int)) (r : AR) : AdR :=
  ⟨numC r.e, r.D, ⟨r.L, r.bs, S.LB, S.bB, if numC r.e = 0 then S.recs ++ rows else S.recs, if r.e ≠ 0 ∧ gi r.e = gLost then true else S.over⟩⟩
open Classical in
noncomputable def addR (D : DM) (S : SM) (rows : List (List Int)) : AdR :=
  if S.over = true then ⟨5, D, S⟩
  else if ¬ packOk rows then ⟨3, D, S⟩
  else if rows = [] then ⟨0, D, S⟩
  else if S.LA.most - S.bA.length < (packB rows).length then ⟨4, D, S⟩
  else addD D S rows (appendR D S.LA S.bA (packB rows) S.LA.note)
noncomputable def addS : Sx.Spec where
  fn := 11
  own := [.arg 0, .link 0 0]
  rd := [1, 3000001, 2000000]
  res := [.one (.int .i64)]
  pre := fun xs Hs Rs => ∃ p v H HD R RA RG g dp S D rows, xs = [p, v] ∧ Hs = [H, HD] ∧ Rs = [R, RA, RG] ∧ StoreAt H p dp S ∧ DiskAt HD dp D ∧ RowsB R RA v rows ∧ Gl RG g ∧ rows.length ≤ 1000000 ∧ (∀ r ∈ rows, r.length ≤ 1000000) ∧ S.bA.length ≤ 1048576 ∧ 0 ≤ S.LA.serial ∧ S.recs.length ≤ 1000000000
  post := fun xs Hs Rs w Hs' F => ∃ p v H HD R RA RG dp S D rows H' HD', xs = [p, v] ∧ Hs = [H, HD] ∧ Rs = [R, RA, RG] ∧ StoreAt H p dp S ∧ DiskAt HD dp D ∧ RowsB R RA v rows ∧ Hs' = [H', HD'] ∧ DiskAt HD' dp (addR D S rows).D ∧ StoreAt H' p dp (addR D S rows).S ∧ w = .int .i64 (addR D S rows).e
theorem room_of {L : LM} {bs : List Int} {q : Env} {n : Nat} (h : Value.int .i64 (q.i n) = .int .i64 (L.most - bs.length)) : q.i n = L.most - bs.length := by simpa using h
noncomputable def adΓ : List Sx.Spec := [readyS, roomS, lnoteS, appendS, wrappedS, isS, numberE, cloneSS]
theorem adΓ_ok : ∀ t ∈ adΓ, t.OK Tryd.prog := fun t ht => by
  simp only [adΓ, List.mem_cons, List.mem_nil_iff, or_false] at ht
  rcases ht with rfl | rfl | rfl | rfl | rfl | rfl | rfl | rfl
  · exact readyS_ok
  · exact roomS_ok
  · exact lnoteS_ok
  · exact appendS_ok
  · exact wrappedS_ok
  · exact isS_ok
  · exact numberE_ok
  · exact cloneSS_ok
def stC (sl : CV) (o : E) : List CV := [.hptr (.var 5) (.lit 0), .hptr (.var 6) (.lit 0), sl, .bool o]
def addNd : Nd := .and (.pre (.call 0 19 [.sv (.one (.hptr (.var 0) (.lit 0))), .sv (.one (.sl (.var 1) (.var 2) (.var 3) (.var 4)))] [] [.blk 0 [.hptr (.var 5) (.lit 0), .hptr (.var 6) (.lit 0), .sl (.var 7) (.lit 0) (.var 8) (.var 9), .bool (.bvar 10)] 70, .ro 16 [.var 1] false, .ro 17 [] true])) (.ext (.call 0 19 [.sv (.one (.hptr (.var 0) (.lit 0))), .sv (.one (.sl (.var 1) (.var 2) (.var 3) (.var 4)))] [] [.blk 0 [.hptr (.var 5) (.lit 0), .hptr (.var 6) (.lit 0), .sl (.var 7) (.lit 0) (.var 8) (.var 9), .bool (.bvar 10)] 70, .ro 16 [.var 1] false, .ro 17 [] true]) (.and (.imp (.eq (.var 23) (.lit 0)) (.and (.e (.le (.lit 0) (.var 3))) (.and (.imp (.eq (.var 3) (.lit 0)) (.post [.blk 0 [.hptr (.var 5) (.lit 0), .hptr (.var 6) (.lit 0), .sl (.var 7) (.lit 0) (.var 8) (.var 9), .bool (.bvar 10)] 70, .hp 12 [] [.var 5] [.var 11], .hp 13 [] [.var 6] [.var 11], .hp 14 [] [.var 7] [], .hp 15 [] [.var 11] [], .ro 16 [.var 1] false, .ro 17 [] true, .ro 18 [.lit 0, .lit 1, .lit 2] false, .hp 19 [] [.var 19] []] (.sv (.one (.int .i64 (.var 23)))))) (.imp (.not (.eq (.var 3) (.lit 0))) (.and (.e (.le (.lit 0) (.var 21))) (.and (.pre (.call 1 24 [.sv (.one (.hptr (.var 5) (.lit 0)))] [] [.hp 12 [] [.var 5] [.var 11]])) (.ext (.call 1 24 [.sv (.one (.hptr (.var 5) (.lit 0)))] [] [.hp 12 [] [.var 5] [.var 11]]) (.and (.imp (.lt (.var 24) (.var 21)) (.post [.blk 0 [.hptr (.var 5) (.lit 0), .hptr (.var 6) (.lit 0), .sl (.var 7) (.lit 0) (.var 8) (.var 9), .bool (.bvar 10)] 70, .hp 12 [] [.var 5] [.var 11], .hp 13 [] [.var 6] [.var 11], .hp 14 [] [.var 7] [], .hp 15 [] [.var 11] [], .ro 16 [.var 1] false, .ro 17 [] true, .ro 18 [.lit 0, .lit 1, .lit 2] false, .hp 19 [] [.var 19] []] (.sv (.one (.int .i64 (.lit 4)))))) (.imp (.not (.lt (.var 24) (.var 21))) (.and (.pre (.call 2 25 [.sv (.one (.hptr (.var 5) (.lit 0)))] [] [.hp 12 [] [.var 5] [.var 11]])) (.ext (.call 2 25 [.sv (.one (.hptr (.var 5) (.lit 0)))] [] [.hp 12 [] [.var 5] [.var 11]]) (.and (.pre (.call 3 41 [.sv (.one (.hptr (.var 5) (.lit 0))), .sv (.one (.sl (.var 19) (.var 20) (.var 21) (.var 22))), .sv (.agg (ckCVs 25 (List.replicate 16 (Ck.int .u8))))] [.hp 12 [] [.var 5] [.var 11], .hp 15 [] [.var 11] []] [.hp 19 [] [.var 19] []])) (.ext (.call 3 41 [.sv (.one (.hptr (.var 5) (.lit 0))), .sv (.one (.sl (.var 19) (.var 20) (.var 21) (.var 22))), .sv (.agg (ckCVs 25 (List.replicate 16 (Ck.int .u8))))] [.hp 12 [] [.var 5] [.var 11], .hp 15 [] [.var 11] []] [.hp 19 [] [.var 19] []]) (.and (.pre (.call 4 44 [.sv (.one (.str (.slit ⟨#[97, 100, 100]⟩))), .sv (.one (.int .i64 (.var 41)))] [] [.ro 18 [.lit 0, .lit 1, .lit 2] false])) (.ext (.call 4 44 [.sv (.one (.str (.slit ⟨#[97, 100, 100]⟩))), .sv (.one (.int .i64 (.var 41)))] [] [.ro 18 [.lit 0, .lit 1, .lit 2] false]) (.and (.e (.his 18 (.lit 0) (.lit 0) 0 .any)) (.and (.pre (.call 5 45 [.sv (.one (.vr 44)), .sv (.one (.hv 18 (.lit 0) (.lit 0) 0))] [] [.ro 18 [.lit 0, .lit 1, .lit 2] false])) (.ext (.call 5 45 [.sv (.one (.vr 44)), .sv (.one (.hv 18 (.lit 0) (.lit 0) 0))] [] [.ro 18 [.lit 0, .lit 1, .lit 2] false]) (.and (.imp (.bvar 45) (.and (.pre (.call 6 46 [.sv (.one (.vr 44))] [] [.ro 18 [.lit 0, .lit 1, .lit 2] false])) (.ext (.call 6 46 [.sv (.one (.vr 44))] [] [.ro 18 [.lit 0, .lit 1, .lit 2] false]) (.and (.imp (.not (.eq (.var 46) (.lit 0))) (.post [.blk 0 [.hptr (.var 5) (.lit 0), .hptr (.var 6) (.lit 0), .sl (.var 7) (.lit 0) (.var 8) (.var 9), .bool .tt] 70, .hp 41 [12] [.var 5] [.var 11], .hp 13 [] [.var 6] [.var 11], .hp 14 [] [.var 7] [], .hp 42 [15] [.var 11] [], .ro 16 [.var 1] false, .ro 17 [] true, .ro 18 [.lit 0, .lit 1, .lit 2] false, .hp 19 [] [.var 19] []] (.sv (.one (.int .i64 (.var 46)))))) (.imp (.eq (.var 46) (.lit 0)) (.and (.inv 0 [⟨60, 0, .int .i64 (.lit 0)⟩, ⟨61, 0, .int .i64 (.var 7)⟩, ⟨62, 0, .int .i64 (.var 8)⟩, ⟨63, 0, .int .i64 (.var 9)⟩, ⟨65, 1, .bool .tt⟩] [(64, some 14)]) (.havoc 0 0 47 (.and (.imp (.lt (.var 60) (.var 3)) (.and (.e (.le (.lit 0) (.var 1))) (.and (.e (.le (.lit 0) (.var 2))) (.and (.e (.le (.lit 0) (.var 60))) (.and (.e (.his 16 (.var 1) (.add (.var 2) (.var 60)) 0 .slice)) (.and (.pre (.call 7 66 [.sv (.one (.sl (.hP 16 (.var 1) (.add (.var 2) (.var 60)) 0 0) (.hP 16 (.var 1) (.add (.var 2) (.var 60)) 0 1) (.hP 16 (.var 1) (.add (.var 2) (.var 60)) 0 2) (.hP 16 (.var 1) (.add (.var 2) (.var 60)) 0 3)))] [] [.ro 17 [] true])) (.ext (.call 7 66 [.sv (.one (.sl (.hP 16 (.var 1) (.add (.var 2) (.var 60)) 0 0) (.hP 16 (.var 1) (.add (.var 2) (.var 60)) 0 1) (.hP 16 (.var 1) (.add (.var 2) (.var 60)) 0 2) (.hP 16 (.var 1) (.add (.var 2) (.var 60)) 0 3)))] [] [.ro 17 [] true]) (.ext (.alloc 70) (.ext (.mrg 71 (.hp 64 [] [.var 61] []) (.hp 66 [] [.var 66] [])) (.and (.pre (.app 72 30 1 24 (.sl (.var 61) (.lit 0) (.var 62) (.var 63)) (.var 62) (.hp 71 [64, 66] [.var 61, .var 66, .var 66] []) (.cvs [.sl (.var 66) (.var 67) (.var 68) (.var 69)] 1))) (.ext (.app 72 30 1 24 (.sl (.var 61) (.lit 0) (.var 62) (.var 63)) (.var 62) (.hp 71 [64, 66] [.var 61, .var 66, .var 66] []) (.cvs [.sl (.var 66) (.var 67) (.var 68) (.var 69)] 1)) (.back 0 0 [⟨60, 0, .int .i64 (.wrap .i64 (.add (.var 60) (.lit 1)))⟩, ⟨61, 0, .int .i64 (.var 72)⟩, ⟨62, 0, .int .i64 (.add (.var 62) (.lit 1))⟩, ⟨63, 0, .int .i64 (.var 73)⟩, ⟨65, 1, .bool (.bvar 65)⟩] [(64, some 72)])))))))))))) (.imp (.not (.lt (.var 60) (.var 3))) (.post [.blk 0 [.hptr (.var 5) (.lit 0), .hptr (.var 6) (.lit 0), .sl (.var 61) (.lit 0) (.var 62) (.var 63), .bool (.bvar 65)] 70, .hp 41 [12] [.var 5] [.var 11], .hp 13 [] [.var 6] [.var 11], .hp 64 [] [.var 61] [], .hp 42 [15] [.var 11] [], .ro 16 [.var 1] false, .ro 17 [] true, .ro 18 [.lit 0, .lit 1, .lit 2] false, .hp 19 [] [.var 19] []] (.sv (.one (.int .i64 (.lit 0)))))))))))))) (.imp (.not (.bvar 45)) (.and (.pre (.call 6 46 [.sv (.one (.vr 44))] [] [.ro 18 [.lit 0, .lit 1, .lit 2] false])) (.ext (.call 6 46 [.sv (.one (.vr 44))] [] [.ro 18 [.lit 0, .lit 1, .lit 2] false]) (.and (.imp (.not (.eq (.var 46) (.lit 0))) (.post [.blk 0 [.hptr (.var 5) (.lit 0), .hptr (.var 6) (.lit 0), .sl (.var 7) (.lit 0) (.var 8) (.var 9), .bool (.bvar 10)] 70, .hp 41 [12] [.var 5] [.var 11], .hp 13 [] [.var 6] [.var 11], .hp 14 [] [.var 7] [], .hp 42 [15] [.var 11] [], .ro 16 [.var 1] false, .ro 17 [] true, .ro 18 [.lit 0, .lit 1, .lit 2] false, .hp 19 [] [.var 19] []] (.sv (.one (.int .i64 (.var 46)))))) (.imp (.eq (.var 46) (.lit 0)) (.and (.inv 0 [⟨60, 0, .int .i64 (.lit 0)⟩, ⟨61, 0, .int .i64 (.var 7)⟩, ⟨62, 0, .int .i64 (.var 8)⟩, ⟨63, 0, .int .i64 (.var 9)⟩, ⟨65, 1, .bool (.bvar 10)⟩] [(64, some 14)]) (.havoc 0 0 47 (.and (.imp (.lt (.var 60) (.var 3)) (.and (.e (.le (.lit 0) (.var 1))) (.and (.e (.le (.lit 0) (.var 2))) (.and (.e (.le (.lit 0) (.var 60))) (.and (.e (.his 16 (.var 1) (.add (.var 2) (.var 60)) 0 .slice)) (.and (.pre (.call 7 66 [.sv (.one (.sl (.hP 16 (.var 1) (.add (.var 2) (.var 60)) 0 0) (.hP 16 (.var 1) (.add (.var 2) (.var 60)) 0 1) (.hP 16 (.var 1) (.add (.var 2) (.var 60)) 0 2) (.hP 16 (.var 1) (.add (.var 2) (.var 60)) 0 3)))] [] [.ro 17 [] true])) (.ext (.call 7 66 [.sv (.one (.sl (.hP 16 (.var 1) (.add (.var 2) (.var 60)) 0 0) (.hP 16 (.var 1) (.add (.var 2) (.var 60)) 0 1) (.hP 16 (.var 1) (.add (.var 2) (.var 60)) 0 2) (.hP 16 (.var 1) (.add (.var 2) (.var 60)) 0 3)))] [] [.ro 17 [] true]) (.ext (.alloc 70) (.ext (.mrg 71 (.hp 64 [] [.var 61] []) (.hp 66 [] [.var 66] [])) (.and (.pre (.app 72 30 1 24 (.sl (.var 61) (.lit 0) (.var 62) (.var 63)) (.var 62) (.hp 71 [64, 66] [.var 61, .var 66, .var 66] []) (.cvs [.sl (.var 66) (.var 67) (.var 68) (.var 69)] 1))) (.ext (.app 72 30 1 24 (.sl (.var 61) (.lit 0) (.var 62) (.var 63)) (.var 62) (.hp 71 [64, 66] [.var 61, .var 66, .var 66] []) (.cvs [.sl (.var 66) (.var 67) (.var 68) (.var 69)] 1)) (.back 0 0 [⟨60, 0, .int .i64 (.wrap .i64 (.add (.var 60) (.lit 1)))⟩, ⟨61, 0, .int .i64 (.var 72)⟩, ⟨62, 0, .int .i64 (.add (.var 62) (.lit 1))⟩, ⟨63, 0, .int .i64 (.var 73)⟩, ⟨65, 1, .bool (.bvar 65)⟩] [(64, some 72)])))))))))))) (.imp (.not (.lt (.var 60) (.var 3))) (.post [.blk 0 [.hptr (.var 5) (.lit 0), .hptr (.var 6) (.lit 0), .sl (.var 61) (.lit 0) (.var 62) (.var 63), .bool (.bvar 65)] 70, .hp 41 [12] [.var 5] [.var 11], .hp 13 [] [.var 6] [.var 11], .hp 64 [] [.var 61] [], .hp 42 [15] [.var 11] [], .ro 16 [.var 1] false, .ro 17 [] true, .ro 18 [.lit 0, .lit 1, .lit 2] false, .hp 19 [] [.var 19] []] (.sv (.one (.int .i64 (.lit 0))))))))))))))))))))))))))))))))) (.imp (.not (.eq (.var 23) (.lit 0))) (.post [.blk 0 [.hptr (.var 5) (.lit 0), .hptr (.var 6) (.lit 0), .sl (.var 7) (.lit 0) (.var 8) (.var 9), .bool (.bvar 10)] 70, .hp 12 [] [.var 5] [.var 11], .hp 13 [] [.var 6] [.var 11], .hp 14 [] [.var 7] [], .hp 15 [] [.var 11] [], .ro 16 [.var 1] false, .ro 17 [] true, .ro 18 [.lit 0, .lit 1, .lit 2] false, .hp 19 [] [.var 19] []] (.sv (.one (.int .i64 (.var 23))))))))
noncomputable def addW : Walk Tryd.prog adΓ addS.fn where
  Λ := fun p => if lp0 p then some ⟨0, [(51, TI .i64 (.var 60))], [(0, .blk 0 [.hptr (.var 5) (.lit 0), .hptr (.var 6) (.lit 0), .sl (.var 61) (.lit 0) (.var 62) (.var 63), .bool (.bvar 65)] 70), (3, .hp 64 [] [.var 61] [])], 66⟩ else none
  args := [TP (.var 0) (.lit 0), .sv (.one (.sl (.var 1) (.var 2) (.var 3) (.var 4)))]
  mem := [.blk 0 [.hptr (.var 5) (.lit 0), .hptr (.var 6) (.lit 0), .sl (.var 7) (.lit 0) (.var 8) (.var 9), .bool (.bvar 10)] 70, .hp 12 [] [.var 5] [.var 11], .hp 13 [] [.var 6] [.var 11], .hp 14 [] [.var 7] [], .hp 15 [] [.var 11] [], .ro 16 [.var 1] false, .ro 17 [] true, .ro 18 [.lit 0, .lit 1, .lit 2] false]
  nv := 19
  nd := addNd
  ok := by kernel_rfl
theorem adg0 : adΓ[0]? = some readyS := rfl
theorem adg1 : adΓ[1]? = some roomS := rfl
theorem adg2 : adΓ[2]? = some lnoteS := rfl
theorem adg3 : adΓ[3]? = some appendS := rfl
theorem adg4 : adΓ[4]? = some wrappedS := rfl
theorem adg5 : adΓ[5]? = some isS := rfl
theorem adg6 : adΓ[6]? = some numberE := rfl
theorem adg7 : adΓ[7]? = some cloneSS := rfl
theorem adr0 : readyS.res = [.one .sl, .one (.int .i64)] := rfl
theorem adr1 : roomS.res = [.one (.int .i64)] := rfl
theorem adr2 : lnoteS.res = [.agg (u8s 16)] := rfl
theorem adr3 : appendS.res = [.one (.int .i64)] := rfl
theorem adr4 : wrappedS.res = [.one .any] := rfl
theorem adr5 : isS.res = [.one .bool] := rfl
theorem adr6 : numberE.res = [.one (.int .i64)] := rfl
theorem adr7 : cloneSS.res = [.one .sl] := rfl
set_option maxRecDepth 8000 in
theorem addS_ok : addS.OK Tryd.prog := by
  refine spec_of_fn2 (Γ := adΓ) adΓ_ok ?_
  rintro xs Hs Rs hl1 hl2 hdis ⟨p, v, H, HD, R, RA, RG, g, dp, S, D, rows, rfl, rfl, rfl, hAt, hD, hB, hG, hlen, hrow, hbA, hser, hrecs⟩
  obtain ⟨a, pa, pb, sl, HA, HB, HR, rfl, hIn⟩ := id hAt
  obtain ⟨us, x, y, c, rfl, hy, hul, hcell, hrd⟩ := id hB
  obtain ⟨da, s, m, es, clock, hdp, hDi⟩ := id hD
  obtain ⟨rx, rc, hrx, hsl⟩ := hIn.rows.rep
  obtain ⟨aa, _, _, hpa, _⟩ := id hIn.la
  obtain ⟨ab, _, _, hpb, _⟩ := id hIn.lb
  obtain ⟨l1, l2, l3, l4⟩ := hls4_le hIn.d1 hIn.d2 hIn.d3 hIn.d4 hIn.d5 hIn.d6
  rw [← hIn.hl] at l1 l2 l3 l4
  have hHD : H.dis HD := hdis 0 1 _ _ (by decide) rfl rfl
  generalize hρ : envI [(a : Int), x, y, us.length, c, aa, ab, rx, S.recs.length, rc, 0, da] S.over [Hl.none, Hl.none, Hl.none, Hl.none, Hl.none, Hl.none, Hl.none, Hl.none, Hl.none, Hl.none, Hl.none, Hl.none, HA, HB, HR, HD, R, RA, RG] = ρ
  have v0 : ρ.i 0 = a := by rw [← hρ]; rfl
  have v1 : ρ.i 1 = x := by rw [← hρ]; rfl
  have v2 : ρ.i 2 = y := by rw [← hρ]; rfl
  have v3 : ρ.i 3 = us.length := by rw [← hρ]; rfl
  have v4 : ρ.i 4 = c := by rw [← hρ]; rfl
  have v5 : ρ.i 5 = aa := by rw [← hρ]; rfl
  have v6 : ρ.i 6 = ab := by rw [← hρ]; rfl
  have v7 : ρ.i 7 = rx := by rw [← hρ]; rfl
  have v8 : ρ.i 8 = S.recs.length := by rw [← hρ]; rfl
  have v9 : ρ.i 9 = rc := by rw [← hρ]; rfl
  have v11 : ρ.i 11 = da := by rw [← hρ]; rfl
  have b10 : ρ.b 10 = S.over := by rw [← hρ]; rfl
  have w12 : ρ.h 12 = HA := by rw [← hρ]; rfl
  have w13 : ρ.h 13 = HB := by rw [← hρ]; rfl
  have w14 : ρ.h 14 = HR := by rw [← hρ]; rfl
  have w15 : ρ.h 15 = HD := by rw [← hρ]; rfl
  have w16 : ρ.h 16 = R := by rw [← hρ]; rfl
  have w17 : ρ.h 17 = RA := by rw [← hρ]; rfl
  have w18 : ρ.h 18 = RG := by rw [← hρ]; rfl
  clear hρ
  have ea : Value.pointer (slP (aa : Int) 0) = pa := by rw [ptr0, hpa]
  have eb : Value.pointer (slP (ab : Int) 0) = pb := by rw [ptr0, hpb]
  have eBlk : ∀ (q : Env) (cs : CV) (o : E), q.i 0 = a → q.i 5 = aa → q.i 6 = ab → (Res.blk 0 [.hptr (.var 5) (.lit 0), .hptr (.var 6) (.lit 0), cs, .bool o] 70).hl q = sHl a pa pb (cs.ev q) (bev q o) := by
    intro q cs o h0 h5 h6
    show Hl.one (q.i 0).toNat (.cells #[Value.pointer (slP (q.i 5) 0), Value.pointer (slP (q.i 6) 0), cs.ev q, .bool (bev q o)] _ (0, 0)) = _
    rw [h0, h5, h6, ea, eb, Int.toNat_natCast]; rfl
  have e0 : (Res.blk 0 [.hptr (.var 5) (.lit 0), .hptr (.var 6) (.lit 0), .sl (.var 7) (.lit 0) (.var 8) (.var 9), .bool (.bvar 10)] 70).hl ρ = sHl a pa pb sl S.over := by
    rw [eBlk ρ _ _ v0 v5 v6, bev_bvar, b10]
    congr 1
    show Value.slice (slP (ρ.i 7) 0) (ρ.i 8).toNat (ρ.i 9).toNat = _
    rw [v7, v8, v9, Int.toNat_natCast, Int.toNat_natCast, hsl]
  refine ⟨addW, ρ, fun _ q => ∃ k : Nat, q.i 60 = k ∧ k ≤ rows.length ∧ -1 ≤ q.i 61 ∧ 0 ≤ q.i 62 ∧ 0 ≤ q.i 63 ∧ q.b 65 = false ∧ RowsR (q.h 64) (.slice (slP (q.i 61) 0) (q.i 62).toNat (q.i 63).toNat) (S.recs ++ rows.take k), fun _ q => (rows.length - q.i 60).toNat, ?_, ⟨?_, ?_, ?_, ?_⟩, (fun _ h => nomatch h), ?_⟩
  · show [Value.pointer (slP (ρ.i 0) 0), Value.slice (slP (ρ.i 1) (ρ.i 2)) (ρ.i 3).toNat (ρ.i 4).toNat] = _
    rw [v0, v1, v2, v3, v4, Int.toNat_natCast, Int.toNat_natCast, ptr0]
  · intro r hr ho
    simp only [addW, List.mem_cons, List.mem_nil_iff, or_false] at hr
    rcases hr with rfl | rfl | rfl | rfl | rfl | rfl | rfl | rfl
    · exact ⟨H, by simp, by rw [e0]; exact l1⟩
    · exact ⟨H, by simp, by show (ρ.h 12).le H; rw [w12]; exact l2⟩
    · exact ⟨H, by simp, by show (ρ.h 13).le H; rw [w13]; exact l3⟩
    · exact ⟨H, by simp, by show (ρ.h 14).le H; rw [w14]; exact l4⟩
    · exact ⟨HD, by simp, by show (ρ.h 15).le HD; rw [w15]; exact Hl.le_refl _⟩
    · cases ho
    · cases ho
    · cases ho
  · intro r hr ho
    simp only [addW, List.mem_cons, List.mem_nil_iff, or_false] at hr
    rcases hr with rfl | rfl | rfl | rfl | rfl | rfl | rfl | rfl
    · cases ho
    · cases ho
    · cases ho
    · cases ho
    · cases ho
    · exact ⟨R, by simp, by show (ρ.h 16).le R; rw [w16]; exact Hl.le_refl _⟩
    · exact ⟨RA, by simp, by show (ρ.h 17).le RA; rw [w17]; exact Hl.le_refl _⟩
    · exact ⟨RG, by simp, by show (ρ.h 18).le RG; rw [w18]; exact Hl.le_refl _⟩
  · have dD : ∀ K : Hl, K.le H → K.dis HD := fun K hK => Hl.dis_symm (Hl.dis_le (Hl.dis_symm hHD) hK)
    have mem4 : addW.mem = [.blk 0 [.hptr (.var 5) (.lit 0), .hptr (.var 6) (.lit 0), .sl (.var 7) (.lit 0) (.var 8) (.var 9), .bool (.bvar 10)] 70, .hp 12 [] [.var 5] [.var 11], .hp 13 [] [.var 6] [.var 11], .hp 14 [] [.var 7] [], .hp 15 [] [.var 11] [], .ro 16 [.var 1] false, .ro 17 [] true, .ro 18 [.lit 0, .lit 1, .lit 2] false] := rfl
    rw [mem4]
    have ro3 : ∀ (l : Mem), (∀ r ∈ l, r.own = false) → ∀ K : Res, ∀ r ∈ l, K.own = true → r.own = true → (K.hl ρ).dis (r.hl ρ) := fun l h K r hr _ ho => by rw [h r hr] at ho; cases ho
    have hro : ∀ r ∈ ([.ro 16 [.var 1] false, .ro 17 [] true, .ro 18 [.lit 0, .lit 1, .lit 2] false] : Mem), r.own = false := by
      intro r hr
      simp only [List.mem_cons, List.mem_nil_iff, or_false] at hr
      rcases hr with rfl | rfl | rfl <;> rfl
    refine List.Pairwise.cons (fun r hr hk ho => ?_) (List.Pairwise.cons (fun r hr hk ho => ?_) (List.Pairwise.cons (fun r hr hk ho => ?_) (List.Pairwise.cons (fun r hr hk ho => ?_) (List.Pairwise.cons (fun r hr hk ho => ro3 _ hro _ r hr hk ho) (List.Pairwise.cons (fun r hr hk ho => by cases hk) (List.Pairwise.cons (fun r hr hk ho => by cases hk) (List.Pairwise.cons (fun r hr => by cases hr) List.Pairwise.nil)))))))
    · rw [e0]
      rw [List.mem_cons, List.mem_cons, List.mem_cons, List.mem_cons] at hr
      rcases hr with rfl | rfl | rfl | rfl | hr
      · show (sHl a pa pb sl S.over).dis (ρ.h 12); rw [w12]; exact hIn.d1
      · show (sHl a pa pb sl S.over).dis (ρ.h 13); rw [w13]; exact hIn.d2
      · show (sHl a pa pb sl S.over).dis (ρ.h 14); rw [w14]; exact hIn.d3
      · show (sHl a pa pb sl S.over).dis (ρ.h 15); rw [w15]; exact dD _ l1
      · rw [hro r hr] at ho; cases ho
    · rw [List.mem_cons, List.mem_cons, List.mem_cons] at hr
      show (ρ.h 12).dis _
      rw [w12]
      rcases hr with rfl | rfl | rfl | hr
      · show HA.dis (ρ.h 13); rw [w13]; exact hIn.d4
      · show HA.dis (ρ.h 14); rw [w14]; exact hIn.d5
      · show HA.dis (ρ.h 15); rw [w15]; exact dD _ l2
      · rw [hro r hr] at ho; cases ho
    · rw [List.mem_cons, List.mem_cons] at hr
      show (ρ.h 13).dis _
      rw [w13]
      rcases hr with rfl | rfl | hr
      · show HB.dis (ρ.h 14); rw [w14]; exact hIn.d6
      · show HB.dis (ρ.h 15); rw [w15]; exact dD _ l3
      · rw [hro r hr] at ho; cases ho
    · rw [List.mem_cons] at hr
      show (ρ.h 14).dis _
      rw [w14]
      rcases hr with rfl | hr
      · show HR.dis (ρ.h 15); rw [w15]; exact dD _ l4
      · rw [hro r hr] at ho; cases ho
  · intro r hr
    simp only [addW, List.mem_cons, List.mem_nil_iff, or_false] at hr
    rcases hr with rfl | rfl | rfl | rfl | rfl | rfl | rfl | rfl
    · show (0 : Int) ≤ ρ.i 0; omega
    all_goals trivial
  · show Nd.holds _ _ _ addNd
    have fin : ∀ (q : Env) (hL hR hK : Nat) (vL vM vR vK : List Nat) (rL rM rR rK kL kM kR kK : List E) (cs : CV) (o rv : E) (t : Mem), Agree 19 ρ q →
        LogAt (q.h hL) pa dp (addR D S rows).S.LA (addR D S rows).S.bA → (addR D S rows).S.LB = S.LB ∧ (addR D S rows).S.bB = S.bB → RowsR (q.h hR) (cs.ev q) (addR D S rows).S.recs → bev q o = (addR D S rows).S.over → DiskAt (q.h hK) dp (addR D S rows).D → iev q rv = (addR D S rows).e →
        postOf addS [.pointer (some ⟨a, 0, none⟩), .slice (slP x y) us.length c] [H, HD] [R, RA, RG] q (.blk 0 [.hptr (.var 5) (.lit 0), .hptr (.var 6) (.lit 0), cs, .bool o] 70 :: .hp hL vL rL kL :: .hp 13 vM rM kM :: .hp hR vR rR kR :: .hp hK vK rK kK :: t) (.sv (.one (.int .i64 rv))) := by
      intro q hL hR hK vL vM vR vK rL rM rR rK kL kM kR kK cs o rv t hg hLq hSB hRq hoq hDq heq hd
      have g0 : q.i 0 = a := by rw [hg.i 0 (by omega), v0]
      have g5 : q.i 5 = aa := by rw [hg.i 5 (by omega), v5]
      have g6 : q.i 6 = ab := by rw [hg.i 6 (by omega), v6]
      have eq0 := eBlk q cs o g0 g5 g6
      rw [hoq] at eq0
      refine ⟨[[0, 1, 2, 3], [4]], [], rfl, rfl, ⟨⟨fun _ => (addR D S rows).e, fun _ => false, fun _ => .empty, fun _ => .tuple #[], fun _ => Hl.none⟩, ?_, trivial, trivial⟩, _, _, H, HD, R, RA, RG, dp, S, D, rows, _, _, rfl, rfl, rfl, hAt, hD, hB, rfl, ?_, ?_, ?_⟩
      · show Value.int .i64 (iev q rv) = .int .i64 (addR D S rows).e
        rw [heq]
      · show DiskAt (hls [q.h hK]) _ _
        rw [hls_one]; exact hDq
      · refine ⟨a, pa, pb, cs.ev q, q.h hL, q.h 13, q.h hR, rfl, hLq, ?_, hRq, ?_, ?_, ?_, hd 1 2 _ _ (by decide) rfl rfl rfl, hd 1 3 _ _ (by decide) rfl rfl rfl, hd 2 3 _ _ (by decide) rfl rfl rfl, ?_⟩
        · rw [hSB.1, hSB.2, hg.h 13 (by omega), w13]; exact hIn.lb
        · rw [← eq0]; exact hd 0 1 _ _ (by decide) rfl rfl rfl
        · rw [← eq0]; exact hd 0 2 _ _ (by decide) rfl rfl rfl
        · rw [← eq0]; exact hd 0 3 _ _ (by decide) rfl rfl rfl
        · rw [← eq0]; rfl
      · show Value.int .i64 (iev q rv) = .int .i64 (addR D S rows).e
        rw [heq]
    unfold addNd
    simp only [Nd.holds, X.pre, X.rel, X.n, Src.ok, Src.len, Src.vals, true_and, and_true, if_true, Nat.mul_one, Nat.add_zero, Nat.reduceAdd, List.length_cons, List.length_nil, bT_tt, bT_ff, bT_bvar, bT_not, bT_and, bT_or, bT_ite, bT_lt, bT_le, bT_eq, bT_beq, bT_seq, bT_hB, bT_his, bT_hby, bT_hism, bT_hks, iev_lit, iev_var, iev_add, iev_sub, iev_mul, iev_wrap, iev_ite, iev_hI, iev_hP, iev_hmlen, sev_ite, sev_slit, sev_sof, sev_svar, TV.ev, SV.ev, CV.ev, List.map_cons, List.map_nil, Res.hl, cpTV, Cp.sv, Ck.cv, cpSVs, Cp.len, Ck.len, newHs_zero, newHs_one, roots_ne, adg0, adg1, adg2, adg3, adg4, adg5, adg6, adg7, adr0, adr1, adr2, adr3, adr4, adr5, adr6, adr7, rsl, rsi]
    have evs : Value.slice (slP (ρ.i 7) 0) (ρ.i 8).toNat (ρ.i 9).toNat = sl := by rw [v7, v8, v9, Int.toNat_natCast, Int.toNat_natCast, hsl]
    have keepL : ∀ q : Env, Agree 19 ρ q → LogAt (q.h 12) pa dp S.LA S.bA ∧ RowsR (q.h 14) (CV.ev q (.sl (.var 7) (.lit 0) (.var 8) (.var 9))) S.recs ∧ bev q (.bvar 10) = S.over ∧ DiskAt (q.h 15) dp D := by
      intro q hg
      refine ⟨by rw [hg.h 12 (by omega), w12]; exact hIn.la, ?_, by rw [bev_bvar, hg.b 10 (by omega), b10], by rw [hg.h 15 (by omega), w15]; exact hD⟩
      show RowsR (q.h 14) (.slice (slP (q.i 7) 0) (q.i 8).toNat (q.i 9).toNat) _
      rw [hg.h 14 (by omega), hg.i 7 (by omega), hg.i 8 (by omega), hg.i 9 (by omega), w14, evs]
      exact hIn.rows
    have same : ∀ (q : Env) (e : Int) (rv : E) (t : Mem), Agree 19 ρ q → addR D S rows = ⟨e, D, S⟩ → iev q rv = e → postOf addS [.pointer (some ⟨a, 0, none⟩), .slice (slP x y) us.length c] [H, HD] [R, RA, RG] q (.blk 0 [.hptr (.var 5) (.lit 0), .hptr (.var 6) (.lit 0), .sl (.var 7) (.lit 0) (.var 8) (.var 9), .bool (.bvar 10)] 70 :: .hp 12 [] [.var 5] [.var 11] :: .hp 13 [] [.var 6] [.var 11] :: .hp 14 [] [.var 7] [] :: .hp 15 [] [.var 11] [] :: t) (.sv (.one (.int .i64 rv))) := by
      intro q e rv t hg he hrv
      obtain ⟨k1, k2, k3, k4⟩ := keepL q hg
      exact fin q 12 14 15 _ _ _ _ _ _ _ _ _ _ _ _ _ _ rv t hg (by rw [he]; exact k1) (by rw [he]; exact ⟨rfl, rfl⟩) (by rw [he]; exact k2) (by rw [he]; exact k3) (by rw [he]; exact k4) (by rw [he]; exact hrv)
    have hp0 : Value.pointer (slP (ρ.i 0) 0) = .pointer (some ⟨a, 0, none⟩) := by rw [v0, ptr0]
    have hv0 : Value.slice (slP (ρ.i 1) (ρ.i 2)) (ρ.i 3).toNat (ρ.i 4).toNat = .slice (slP x y) us.length c := by rw [v1, v2, v3, v4, Int.toNat_natCast, Int.toNat_natCast]
    have hc3 : (sHl a pa pb sl S.over).cell a 3 = some (.bool S.over) := by unfold sHl; rw [Hl.one_cell]; rfl
    have e0' : Hl.one (ρ.i 0).toNat (.cells #[Value.pointer (slP (ρ.i 5) 0), Value.pointer (slP (ρ.i 6) 0), Value.slice (slP (ρ.i 7) 0) (ρ.i 8).toNat (ρ.i 9).toNat, Value.bool (bev ρ (.bvar 10))] 70 (0, 0)) = sHl a pa pb sl S.over := e0
    rw [hp0, hv0, e0', w16, w17]
    refine ⟨⟨_, _, a, S.over, _, R, RA, rows, rfl, rfl, rfl, hc3, hB, hlen, hrow⟩, fun q1 g1 ⟨F1, hp1, hF1, hn1⟩ => ?_⟩
    obtain ⟨u1, e1, hv1, hE1, hO1⟩ := ready_post hc3 hB hp1
    simp only [Value.tuple.injEq, Array.mk.injEq, List.cons.injEq, Value.int.injEq, true_and, and_true] at hv1
    obtain ⟨eu, ee⟩ := hv1
    have hn19 : -1 ≤ q1.i 19 ∧ 0 ≤ q1.i 20 ∧ 0 ≤ q1.i 21 ∧ 0 ≤ q1.i 22 := hn1.1
    refine ⟨fun h23 => ?_, fun h23 => same q1 (q1.i 23) _ _ g1 ?_ (iev_var _ _)⟩
    rotate_left
    · rw [ee] at h23 ⊢
      unfold addR
      cases ho : S.over with
      | true => rw [if_pos rfl, hE1.1 ho]
      | false =>
        rw [if_neg (by simp)]
        by_cases hk : packOk rows
        · exact absurd (hE1.2.1 ho hk) h23
        · rw [if_pos hk, hE1.2.2 ho hk]
    have he0 : e1 = 0 := by rw [← ee]; exact h23
    have ho : ¬ S.over = true := fun h => by have := hE1.1 h; omega
    have hof : S.over = false := Bool.eq_false_iff.2 ho
    have hk : packOk rows := Classical.byContradiction fun h => by have := hE1.2.2 hof h; omega
    have hOw : OwB (q1.h 19) 5 (.slice (slP (q1.i 19) (q1.i 20)) (q1.i 21).toNat (q1.i 22).toNat) (packB rows) := by rw [hF1 trivial, eu]; exact hO1 he0
    have h21 : q1.i 21 = (packB rows).length := (hOw.rd.at hn19.1 hn19.2.1 hn19.2.2.1).1
    rw [g1.i 3 (by omega), v3]
    refine ⟨by omega, fun hz => same q1 0 _ _ g1 ?_ h23, fun hnz => ⟨by omega, ?_⟩⟩
    · have hz : (us.length : Int) = 0 := hz
      have hz2 : rows.length = 0 := by rw [← hul]; omega
      have : rows = [] := List.length_eq_zero_iff.1 hz2
      unfold addR
      rw [if_neg ho, if_neg (fun h => h hk), if_pos this]
    have hne : rows ≠ [] := fun h => by
      have hnz : ¬ (us.length : Int) = 0 := hnz
      rw [h] at hul
      have : us.length = 0 := hul
      omega
    have hpa' : ∀ q : Env, Agree 19 ρ q → Value.pointer (slP (q.i 5) 0) = pa := fun q hg => by rw [hg.i 5 (by omega), v5, ea]
    have kA : ∀ q : Env, Agree 19 ρ q → LogAt (q.h 12) pa dp S.LA S.bA := fun q hg => (keepL q hg).1
    rw [hpa' q1 g1]
    refine ⟨room_pre (kA q1 g1).rd hbA, fun q2 g2 ⟨F2, hp2, _⟩ => ?_⟩
    have G2 : Agree 19 ρ q2 := g1.trans (g2.mono (by omega))
    have h24 : q2.i 24 = S.LA.most - S.bA.length := room_of (room_post (kA q1 g1).rd hp2)
    have h21' : q2.i 21 = (packB rows).length := by rw [g2.i 21 (by omega), h21]
    refine ⟨fun hlt => same q2 4 _ _ G2 ?_ (iev_lit _ _), fun hge => ?_⟩
    · rw [h24, h21'] at hlt
      unfold addR
      rw [if_neg ho, if_neg (fun h => h hk), if_neg hne, if_pos hlt]
    rw [h24, h21'] at hge
    have hAdd : addR D S rows = addD D S rows (appendR D S.LA S.bA (packB rows) S.LA.note) := by
      unfold addR
      rw [if_neg ho, if_neg (fun h => h hk), if_neg hne, if_neg hge]
    generalize hr : appendR D S.LA S.bA (packB rows) S.LA.note = r at hAdd
    rw [hpa' q2 G2]
    refine ⟨lnote_pre (kA q2 G2).rd, fun q3 g3 ⟨F3, hp3, _⟩ => ?_⟩
    have G3 : Agree 19 ρ q3 := G2.trans (g3.mono (by omega))
    have hv3 := lnote_post (kA q2 G2).rd hp3
    have ec3 : (ckCVs 25 (List.replicate 16 (Ck.int .u8))).map (CV.ev q3) = bys S.LA.note := List.toArray_inj (Value.agg.inj hv3)
    have hn16 : S.LA.note.length = 16 := by obtain ⟨_, ⟨_, _, hLi⟩, _⟩ := hIn.la.rd; exact hLi.1.note
    have hRd3 : RdW (q3.h 19) (.slice (slP (q3.i 19) (q3.i 20)) (q3.i 21).toNat (q3.i 22).toNat) (packB rows) := by
      have G13 : Agree 24 q1 q3 := g2.trans (g3.mono (by omega))
      rw [G13.h 19 (by omega), G13.i 19 (by omega), G13.i 20 (by omega), G13.i 21 (by omega), G13.i 22 (by omega)]
      exact hOw.rd.w
    have kD3 : DiskAt (q3.h 15) dp D := (keepL q3 G3).2.2.2
    rw [hpa' q3 G3, ec3]
    refine ⟨⟨_, _, _, _, _, _, _, dp, _, _, _, rfl, rfl, rfl, kA q3 G3, kD3, hRd3, hbA, hn16, hser⟩, fun q4 g4 ⟨F4, hp4, _⟩ => ?_⟩
    obtain ⟨HL4, HD4, hK, hD4, hL4, hv4⟩ := append_post (kA q3 G3) kD3 hRd3 hp4
    rw [hr] at hD4 hL4 hv4
    have hK1 : q4.h 41 = HL4 ∧ q4.h 42 = HD4 := by
      have h1 : [q4.h 41, q4.h 42] = [HL4, HD4] := hK
      simpa using h1
    obtain ⟨hK1, hK2⟩ := hK1
    have h41 : q4.i 41 = r.e := by simpa using hv4
    have G4 : Agree 19 ρ q4 := G3.trans (g4.mono (by omega))
    rw [h41, G4.h 18 (by omega), w18]
    refine ⟨⟨_, _, RG, g, rfl, rfl, hG⟩, fun q5 g5 ⟨F5, ⟨s5, c5, R5, x1, x2, hE5⟩, _⟩ => ?_⟩
    simp only [List.cons.injEq, Value.string.injEq, Value.int.injEq, true_and, and_true] at x1 x2
    obtain ⟨x1, x3⟩ := x1
    subst x1 x2 x3
    have hE5 : ErrAt g (q5.v 44) r.e := hE5 g hG
    have G5 : Agree 19 ρ q5 := G4.trans (g5.mono (by omega))
    have cL : RG.cell (Int.toNat 0) (Int.toNat 0) = some (gv g gLost) := hG.cell gLost (Or.inl rfl)
    rw [G5.h 18 (by omega), w18, cL]
    refine ⟨rfl, ⟨_, _, RG, g, r.e, gLost, rfl, rfl, hG, hE5, Or.inl rfl, rfl⟩, fun q6 g6 ⟨F6, hp6, _⟩ => ?_⟩
    have r6 := is_res hG hE5 (Or.inl rfl) hp6
    rw [r6]
    have G6 : Agree 19 ρ q6 := G5.trans (g6.mono (by omega))
    have hE6 : ErrAt g (q6.v 44) r.e := by rw [g6.v 44 (by omega)]; exact hE5
    have num : ∀ (q7 : Env), Agree 46 q6 q7 → (∃ F, numberE.post [q6.v 44] [] [RG] (.int .i64 (q7.i 46)) [] F ∧ (cpRoots 0 [Cp.one (Ck.int .i64)] ≠ [] → q7.h 46 = F) ∧ cpNorms 46 [Cp.one (Ck.int .i64)] q7) → q7.i 46 = numC r.e ∧ Agree 19 ρ q7 ∧ Agree 43 q4 q7 := by
      intro q7 g7 ⟨F7, ⟨e7, R7, x1, x2, h7⟩, _⟩
      simp only [List.cons.injEq, and_true] at x1 x2
      subst x1 x2
      have := h7 g r.e hG hE6
      exact ⟨by simpa using this, G6.trans (g7.mono (by omega)), (g5.trans ((g6.trans (g7.mono (by omega))).mono (by omega))).mono (by omega)⟩
    rw [G6.h 18 (by omega), w18]
    refine ⟨fun hcl => ⟨⟨_, RG, g, r.e, rfl, rfl, hG, hE6⟩, fun q7 g7 hq7 => ?_⟩, fun hcl => ⟨⟨_, RG, g, r.e, rfl, rfl, hG, hE6⟩, fun q7 g7 hq7 => ?_⟩⟩
    · obtain ⟨hn46, G7, G47⟩ := num q7 g7 hq7
      have hnz46 : ¬ numC r.e = 0 := by
        unfold numC
        rw [if_neg hcl.1, if_neg (by rw [hcl.2]; decide), if_neg (by rw [hcl.2]; decide)]
        decide
      refine ⟨fun _ => ?_, fun h => absurd (hn46.symm.trans h) hnz46⟩
      refine fin q7 41 14 42 _ _ _ _ _ _ _ _ _ _ _ _ (.sl (.var 7) (.lit 0) (.var 8) (.var 9)) _ _ _ G7 ?_ ?_ ?_ ?_ ?_ ?_
      · rw [hAdd, G47.h 41 (by omega), hK1]; exact hL4
      · rw [hAdd]; exact ⟨rfl, rfl⟩
      · rw [hAdd]
        unfold addD
        rw [if_neg hnz46]; exact (keepL q7 G7).2.1
      · rw [hAdd]
        show true = (if _ then true else S.over)
        rw [if_pos hcl]
      · rw [hAdd, G47.h 42 (by omega), hK2]; exact hD4
      · rw [hAdd, iev_var, hn46]; rfl
    · obtain ⟨hn46, G7, G47⟩ := num q7 g7 hq7
      refine ⟨fun hnz46 => ?_, fun h46 => ?_⟩
      · refine fin q7 41 14 42 _ _ _ _ _ _ _ _ _ _ _ _ (.sl (.var 7) (.lit 0) (.var 8) (.var 9)) _ _ _ G7 ?_ ?_ ?_ ?_ ?_ ?_
        · rw [hAdd, G47.h 41 (by omega), hK1]; exact hL4
        · rw [hAdd]; exact ⟨rfl, rfl⟩
        · rw [hAdd]
          unfold addD
          rw [if_neg (fun h => hnz46 (hn46.trans h))]; exact (keepL q7 G7).2.1
        · rw [hAdd, (keepL q7 G7).2.2.1]
          show S.over = (if _ then true else S.over)
          rw [if_neg hcl]
        · rw [hAdd, G47.h 42 (by omega), hK2]; exact hD4
        · rw [hAdd, iev_var, hn46]; rfl
      · clear num
        refine ⟨⟨0, rfl, Nat.zero_le _, by show -1 ≤ q7.i 7; rw [G7.i 7 (by omega), v7]; exact hrx, by show 0 ≤ q7.i 8; rw [G7.i 8 (by omega), v8]; omega, by show 0 ≤ q7.i 9; rw [G7.i 9 (by omega), v9]; omega, ?_, ?_⟩, fun q8 g8 ⟨k, ek, hkl, x61, x62, x63, b65, hRk⟩ => ?_⟩
        · show bev q7 (.bvar 10) = false
          rw [bev_bvar, G7.b 10 (by omega), b10, hof]
        · show RowsR (q7.h 14) (.slice (slP (q7.i 7) 0) (q7.i 8).toNat (q7.i 9).toNat) _
          rw [G7.h 14 (by omega), G7.i 7 (by omega), G7.i 8 (by omega), G7.i 9 (by omega), w14, evs, List.take_zero, List.append_nil]
          exact hIn.rows
        have G8 : Agree 19 ρ q8 := G7.trans (g8.mono (by omega))
        have h62 : q8.i 62 = S.recs.length + k := by
          have := (hRk.at x61 x62).1
          rw [List.length_append, List.length_take] at this
          omega
        rw [G8.i 1 (by omega), G8.i 2 (by omega), G8.i 3 (by omega), G8.h 16 (by omega), G8.h 17 (by omega), v1, v2, v3, w16, w17, ek]
        refine ⟨fun hlt => ?_, fun hge => ?_⟩
        · have hkr : k < rows.length := by omega
          have hrk : rows[k]? = some rows[k] := List.getElem?_eq_getElem hkr
          have hu : us[k]? = some us[k] := List.getElem?_eq_getElem (by omega)
          obtain ⟨hx0, hc⟩ := hcell k _ hu
          have hRr := hrd k _ _ hu hrk
          have hsl : ∃ a l c, us[k] = Value.slice a l c := (RdW.parts hRr).1
          have hck : R.cell x.toNat (y + (k : Int)).toNat = some us[k] := by rw [show (y + (k : Int)).toNat = y.toNat + k by omega]; exact hc
          rw [hck, sl_parts hsl]
          refine ⟨hx0, hy, by omega, by obtain ⟨_, _, _, e⟩ := hsl; rw [e]; rfl, ⟨_, _, RA, rfl, rfl, hRr, hrow _ (List.getElem_mem _)⟩, fun q9 g9 ⟨F9, ⟨u9, bs9, R9, x1, x2, hR9, hO9⟩, hF9, hn9⟩ q10 g10 _ q11 g11 ⟨e11, hd11⟩ => ?_⟩
          simp only [List.cons.injEq, and_true] at x1 x2
          subst x1 x2
          obtain rfl := hRr.uniq hR9
          rw [← hF9 trivial] at hO9
          have hn9 : -1 ≤ q9.i 66 ∧ 0 ≤ q9.i 67 ∧ 0 ≤ q9.i 68 ∧ 0 ≤ q9.i 69 := hn9.1
          have G10 : Agree 66 q8 q10 := g9.trans (g10.mono (by omega))
          have G11 : Agree 66 q8 q11 := G10.trans (g11.mono (by omega))
          have G9 : Agree 70 q9 q11 := g10.trans (g11.mono (by omega))
          have hu9 : RowR (q10.h 66) none (.slice (slP (q11.i 66) (q11.i 67)) (q11.i 68).toNat (q11.i 69).toNat) rows[k] := by
            rw [g10.h 66 (by omega), G9.i 66 (by omega), G9.i 67 (by omega), G9.i 68 (by omega), G9.i 69 (by omega)]
            exact RowR.of hO9.rd.w hn9.1 hn9.2.1
          rw [e11, G10.h 64 (by omega), G11.i 61 (by omega), G11.i 62 (by omega), G11.i 63 (by omega)]
          rw [G10.h 64 (by omega)] at hd11
          have hpre : ∃ xs, OwnsH ((q8.h 64).un (q10.h 66)) 30 1 (.slice (slP (q8.i 61) 0) (q8.i 62).toNat (q8.i 63).toNat) (q8.i 62).toNat xs := by
            obtain ⟨us', ho', _⟩ := hRk
            rw [show (q8.i 62).toNat = (S.recs ++ rows.take k).length by rw [List.length_append, List.length_take]; omega] at ho' ⊢
            exact ⟨us', ho'.mono (Hl.un_left _ _)⟩
          refine ⟨⟨hpre, x62, by unfold maxLen; omega, by omega⟩, fun q12 g12 ⟨a1, a2, happ, hkp, _, hnw⟩ => ?_⟩
          have G12 : Agree 66 q8 q12 := G11.trans (g12.mono (by omega))
          have hrows := rowsR_app hRk x61 x62 hd11 hu9 a1 happ hkp hnw
          have e62 : q12.i 62 + 1 = q8.i 62 + 1 := by rw [G12.i 62 (by omega)]
          have e60 : q12.i 60 = k := by rw [G12.i 60 (by omega), ek]
          have w60 : IntKind.i64.wrap (q12.i 60 + 1) = (k : Int) + 1 := by rw [e60]; exact wrap_i64 (by omega) (by omega)
          refine ⟨⟨k + 1, ?_, by omega, a1, ?_, a2, ?_, ?_⟩, ?_⟩
          · show IntKind.i64.wrap (q12.i 60 + 1) = _
            rw [w60]; rfl
          · show 0 ≤ q12.i 62 + 1
            omega
          · show q12.b 65 = false
            rw [G12.b 65 (by omega)]; exact b65
          · show RowsR (q12.h 72) (.slice (slP (q12.i 72) 0) (q12.i 62 + 1).toNat (q12.i 73).toNat) _
            rw [e62, List.take_add_one, hrk, Option.toList_some, ← List.append_assoc]; exact hrows
          · show ((rows.length : Int) - IntKind.i64.wrap (q12.i 60 + 1)).toNat < _
            rw [w60]; omega
        · have hke : k = rows.length := by omega
          subst hke
          rw [List.take_length] at hRk
          refine fin q8 41 64 42 _ _ _ _ _ _ _ _ _ _ _ _ (.sl (.var 61) (.lit 0) (.var 62) (.var 63)) _ _ _ G8 ?_ ?_ ?_ ?_ ?_ ?_
          · rw [hAdd, g8.h 41 (by omega), G47.h 41 (by omega), hK1]; exact hL4
          · rw [hAdd]; exact ⟨rfl, rfl⟩
          · rw [hAdd]
            unfold addD
            rw [if_pos (hn46.symm.trans h46)]; exact hRk
          · rw [bev_bvar, b65, hAdd]
            show false = (if _ then true else S.over)
            rw [if_neg hcl]; exact hof.symm
          · rw [hAdd, g8.h 42 (by omega), G47.h 42 (by omega), hK2]; exact hD4
          · rw [hAdd, iev_lit]
            exact (hn46.symm.trans h46).symm
end Go.Proofs.YtomdimlnggpgbaaDoor
