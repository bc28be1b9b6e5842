/- Layer 9: StoreAny: walked. No condition but that bytes are bytes. -/
import Derived.Test.YtomdimlnggpgbaaDoorStL
set_option linter.unusedSimpArgs false
set_option linter.unusedVariables false
set_option linter.constructorNameAsVariable false
namespace Go.Proofs.YtomdimlnggpgbaaDoor
open Go Go.Sx Go.Pk
open Go.Proofs.YtomdimlnggpgbaaDoor.D hiding envI noLoops numS

theorem takenG_len : ∀ (n : Nat) (bs : List Int), (takenG n bs).length ≤ n ∧ ∀ r ∈ takenG n bs, r.length ≤ 4096
  | 0, _ => ⟨Nat.le_refl _, fun r h => by cases h⟩
  | n + 1, bs => by
    unfold takenG
    split
    · exact ⟨Nat.zero_le _, fun r h => by cases h⟩
    · split
      · exact ⟨Nat.zero_le _, fun r h => by cases h⟩
      · rename_i hb
        obtain ⟨h1, h2⟩ := takenG_len n (tx bs).2.1
        refine ⟨by rw [List.length_cons]; omega, fun r hr => ?_⟩
        rcases List.mem_cons.1 hr with rfl | hr
        · unfold tx inText at hb ⊢
          split
          · simp
          · rename_i hc
            show ((bs.drop _).take _).length ≤ _
            rw [List.length_take]
            omega
        · exact h2 r hr
theorem takenL_len (bs : List Int) : (takenL bs).length ≤ bs.length ∧ ∀ r ∈ takenL bs, r.length ≤ 4096 := takenG_len _ _
theorem sOpen_recs {D : DM} (hD : D.ok) (hn : 3 ≤ D.n / 2) : (sOpen D).recs.length ≤ 1000000 ∧ (∀ r ∈ (sOpen D).recs, r.length ≤ 1000000) ∧ (sOpen D).bA.length ≤ 1000000 := by
  have hDn := hD.n
  have hLA : ((lowB D).length : Int) ≤ _ := openB_length hD (frm := 0) (n := ((D.n / 2 : Nat) : Int)) (by omega)
  have hLB : ((highB D).length : Int) ≤ _ := openB_length hD (frm := ((D.n / 2 : Nat) : Int)) (n := ((D.n / 2 : Nat) : Int)) (by omega)
  unfold sOpen
  split
  · obtain ⟨h1, h2⟩ := takenL_len (highB D)
    exact ⟨by show (takenL (highB D)).length ≤ _; omega, fun r hr => by have := h2 r hr; omega, by show (highB D).length ≤ _; omega⟩
  · obtain ⟨h1, h2⟩ := takenL_len (lowB D)
    exact ⟨by show (takenL (lowB D)).length ≤ _; omega, fun r hr => by have := h2 r hr; omega, by show (lowB D).length ≤ _; omega⟩
theorem putD_bytes {D : DM} (h : D.ok) {i : Int} (hi : D.has i = true) {bs : List Int} (hb : bs.length = 64) (h1 : bytes256 D.now) (h2 : bytes256 bs) : bytes256 (putD D i bs).now := by
  intro z hz
  obtain ⟨j, hj⟩ := List.mem_iff_getElem?.1 hz
  rw [putD_get h hi hb] at hj
  split at hj
  · exact h2 z (List.mem_of_getElem? hj)
  · exact h1 z (List.mem_of_getElem? hj)
theorem fullL_bytes {bs : List Int} (h : bytes256 bs) : bytes256 (fullL 0 bs) := by
  intro z hz
  unfold fullL at hz
  obtain ⟨i, _, rfl⟩ := List.mem_map.1 hz
  cases hb : bs[i]? with
  | none => exact ⟨Int.le_refl _, by decide⟩
  | some y => exact h y (List.mem_of_getElem? hb)
theorem wr_post {p u v : Value} {i : Int} {bs : List Int} {H H' R F : Hl} {D : DM} (h1 : DiskAt H p D) (h2 : RdW R u bs) (hp : writeWS.post [p, .int .i64 i, u] [H] [R] v [H'] F) : DiskAt H' p (writeR D i bs).2 ∧ v = .int .i64 (writeR D i bs).1 := by
  obtain ⟨p', i', u', bs', Hx, Rx, D', H2, e1, e2, e3, k1, k2, e4, k3, hv⟩ := hp
  simp only [List.cons.injEq, Value.int.injEq, true_and, and_true] at e1 e2 e3 e4
  obtain ⟨a1, a2, a3⟩ := e1
  subst a1 a2 a3 e2 e3 e4
  obtain rfl := h1.uniq k1
  have : bs = bs' := h2.uniq k2
  subst this
  exact ⟨k3, hv⟩
theorem full_post {c : Int} {u v : Value} {bs : List Int} {R F : Hl} {K : List Hl} (h2 : RdW R u bs) (hp : fullS.post [.int .u8 c, u] [] [R] v K F) : OwB F 5 v (fullL c bs) := by
  obtain ⟨c', u', bs', Rx, e1, e2, k2, k3⟩ := hp
  simp only [List.cons.injEq, Value.int.injEq, true_and, and_true] at e1 e2
  obtain ⟨a1, a2⟩ := e1
  subst a1 a2 e2
  rw [h2.uniq k2]; exact k3
noncomputable def lvΓ : List Sx.Spec := lwΓ ++ [awakeS]
theorem lvΓ_ok : ∀ t ∈ lvΓ, t.OK Tryd.prog := fun t ht => by
  rcases List.mem_append.1 ht with h | h
  · exact lwΓ_ok t h
  · rw [List.mem_singleton] at h; rw [h]; exact awakeS_ok
theorem lvg0 : lvΓ[0]? = some newS := rfl
theorem lvg1 : lvΓ[1]? = some sopenS := rfl
theorem lvg2 : lvΓ[2]? = some sroomS := rfl
theorem lvg3 : lvΓ[3]? = some addS := rfl
theorem lvg4 : lvΓ[4]? = some srecS := rfl
theorem lvg5 : lvΓ[5]? = some rsameS := rfl
theorem lvg6 : lvΓ[6]? = some fullS := rfl
theorem lvg7 : lvΓ[7]? = some writeWS := rfl
theorem lvg8 : lvΓ[8]? = some sgenS := rfl
theorem lvg9 : lvΓ[9]? = some awakeS := rfl
theorem lvr9 : awakeS.res = [.one .bool] := rfl
def yes (fn : FuncId) (pre : List Value → List Hl → Prop) (rd : List Nat) : Sx.Spec where
  fn := fn
  own := []
  rd := rd
  res := [.one .bool]
  pre := fun xs Hs Rs => pre xs Rs
  post := fun xs Hs Rs v Hs' F => v = .bool true
theorem yes_out {fn : FuncId} {pre : List Value → List Hl → Prop} {rd : List Nat} {xs : List Value} {Rs : List Hl} {q : Env} {mem : Mem} {e : E} (h : bev q e = true) : postOf (yes fn pre rd) xs [] Rs q mem (.sv (.one (.bool e))) := fun _ =>
  ⟨[], [], rfl, rfl, ⟨⟨fun _ => 0, fun _ => true, fun _ => .empty, fun _ => .tuple #[], fun _ => Hl.none⟩, by show Value.bool (bev q e) = .bool true; rw [h], trivial, trivial⟩, by show Value.bool (bev q e) = .bool true; rw [h]⟩
def anyS : Sx.Spec := yes 5 (fun xs Rs => ∃ v R RG g rows, xs = [v] ∧ Rs = [R, RG] ∧ RowsB R R v rows ∧ (∀ r ∈ rows, bytes256 r) ∧ Gl RG g) [0, 2000000]
def anyNd : Nd := .and (.pre (.call 9 6 [] [] [.ro 5 [.lit 0, .lit 1, .lit 2] false])) (.ext (.call 9 6 [] [] [.ro 5 [.lit 0, .lit 1, .lit 2] false]) (.and (.imp (.bvar 6) (.and (.e (.le (.lit 0) (.var 2))) (.and (.imp (.lt (.lit 16) (.var 2)) (.and (.pre (.call 9 7 [] [] [.ro 5 [.lit 0, .lit 1, .lit 2] false])) (.ext (.call 9 7 [] [] [.ro 5 [.lit 0, .lit 1, .lit 2] false]) (.post [.ro 4 [.var 0] true, .ro 5 [.lit 0, .lit 1, .lit 2] false] (.sv (.one (.bool (.bvar 7)))))))) (.imp (.not (.lt (.lit 16) (.var 2))) (.and (.pre (.call 0 7 [.sv (.one (.int .i64 (.var 2)))] [] [])) (.ext (.call 0 7 [.sv (.one (.int .i64 (.var 2)))] [] []) (.and (.inv 0 [⟨50, 0, .int .i64 (.lit 0)⟩] [(51, some 7)]) (.havoc 0 0 9 (.and (.imp (.lt (.var 50) (.var 2)) (.and (.e (.le (.lit 0) (.var 0))) (.and (.e (.le (.lit 0) (.var 1))) (.and (.e (.le (.lit 0) (.var 50))) (.and (.e (.his 4 (.var 0) (.add (.var 1) (.var 50)) 0 .slice)) (.and (.pre (.call 6 60 [.sv (.one (.int .u8 (.lit 0))), .sv (.one (.sl (.hP 4 (.var 0) (.add (.var 1) (.var 50)) 0 0) (.hP 4 (.var 0) (.add (.var 1) (.var 50)) 0 1) (.hP 4 (.var 0) (.add (.var 1) (.var 50)) 0 2) (.hP 4 (.var 0) (.add (.var 1) (.var 50)) 0 3)))] [] [.ro 4 [.var 0] true])) (.ext (.call 6 60 [.sv (.one (.int .u8 (.lit 0))), .sv (.one (.sl (.hP 4 (.var 0) (.add (.var 1) (.var 50)) 0 0) (.hP 4 (.var 0) (.add (.var 1) (.var 50)) 0 1) (.hP 4 (.var 0) (.add (.var 1) (.var 50)) 0 2) (.hP 4 (.var 0) (.add (.var 1) (.var 50)) 0 3)))] [] [.ro 4 [.var 0] true]) (.and (.pre (.call 7 64 [.sv (.one (.hptr (.var 7) (.var 8))), .sv (.one (.int .i64 (.var 50))), .sv (.one (.sl (.var 60) (.var 61) (.var 62) (.var 63)))] [.hp 51 [] [.var 7] []] [.hp 60 [] [.var 60] []])) (.ext (.call 7 64 [.sv (.one (.hptr (.var 7) (.var 8))), .sv (.one (.int .i64 (.var 50))), .sv (.one (.sl (.var 60) (.var 61) (.var 62) (.var 63)))] [.hp 51 [] [.var 7] []] [.hp 60 [] [.var 60] []]) (.back 0 0 [⟨50, 0, .int .i64 (.wrap .i64 (.add (.var 50) (.lit 1)))⟩] [(51, some 64)])))))))))) (.imp (.not (.lt (.var 50) (.var 2))) (.and (.pre (.call 1 60 [.sv (.one (.hptr (.var 7) (.var 8)))] [.hp 51 [] [.var 7] []] [])) (.ext (.call 1 60 [.sv (.one (.hptr (.var 7) (.var 8)))] [.hp 51 [] [.var 7] []] []) (.and (.imp (.lt (.var 2) (.lit 6)) (.and (.imp (.eq (.var 62) (.lit 1)) (.post [.ro 4 [.var 0] true, .ro 5 [.lit 0, .lit 1, .lit 2] false, .hp 60 [51] [.var 7] [], .hp 61 [] [.var 60] [.var 7]] (.sv (.one (.bool (.eq (.var 60) (.lit (-1)))))))) (.imp (.not (.eq (.var 62) (.lit 1))) (.post [.ro 4 [.var 0] true, .ro 5 [.lit 0, .lit 1, .lit 2] false, .hp 60 [51] [.var 7] [], .hp 61 [] [.var 60] [.var 7]] (.sv (.one (.bool .ff))))))) (.imp (.not (.lt (.var 2) (.lit 6))) (.and (.pre (.call 1 63 [.sv (.one (.hptr (.var 7) (.var 8)))] [.hp 60 [51] [.var 7] []] [])) (.ext (.call 1 63 [.sv (.one (.hptr (.var 7) (.var 8)))] [.hp 60 [51] [.var 7] []] []) (.and (.imp (.eq (.var 62) (.lit 0)) (.and (.imp (.eq (.var 65) (.lit 0)) (.and (.pre (.call 4 66 [.sv (.one (.hptr (.var 60) (.var 61)))] [] [.hp 61 [] [.var 60] [.var 7]])) (.ext (.call 4 66 [.sv (.one (.hptr (.var 60) (.var 61)))] [] [.hp 61 [] [.var 60] [.var 7]]) (.and (.pre (.call 4 70 [.sv (.one (.hptr (.var 63) (.var 64)))] [] [.hp 64 [] [.var 63] [.var 7]])) (.ext (.call 4 70 [.sv (.one (.hptr (.var 63) (.var 64)))] [] [.hp 64 [] [.var 63] [.var 7]]) (.and (.pre (.call 5 74 [.sv (.one (.sl (.var 66) (.var 67) (.var 68) (.var 69))), .sv (.one (.sl (.var 70) (.var 71) (.var 72) (.var 73)))] [] [.hp 66 [] [.var 66] [], .hp 70 [] [.var 70] []])) (.ext (.call 5 74 [.sv (.one (.sl (.var 66) (.var 67) (.var 68) (.var 69))), .sv (.one (.sl (.var 70) (.var 71) (.var 72) (.var 73)))] [] [.hp 66 [] [.var 66] [], .hp 70 [] [.var 70] []]) (.and (.imp (.bvar 74) (.and (.pre (.call 8 75 [.sv (.one (.hptr (.var 60) (.var 61)))] [] [.hp 61 [] [.var 60] [.var 7]])) (.ext (.call 8 75 [.sv (.one (.hptr (.var 60) (.var 61)))] [] [.hp 61 [] [.var 60] [.var 7]]) (.and (.pre (.call 8 76 [.sv (.one (.hptr (.var 63) (.var 64)))] [] [.hp 64 [] [.var 63] [.var 7]])) (.ext (.call 8 76 [.sv (.one (.hptr (.var 63) (.var 64)))] [] [.hp 64 [] [.var 63] [.var 7]]) (.and (.imp (.eq (.var 75) (.var 76)) (.and (.pre (.call 2 77 [.sv (.one (.hptr (.var 60) (.var 61)))] [] [.hp 61 [] [.var 60] [.var 7]])) (.ext (.call 2 77 [.sv (.one (.hptr (.var 60) (.var 61)))] [] [.hp 61 [] [.var 60] [.var 7]]) (.and (.pre (.call 2 78 [.sv (.one (.hptr (.var 63) (.var 64)))] [] [.hp 64 [] [.var 63] [.var 7]])) (.ext (.call 2 78 [.sv (.one (.hptr (.var 63) (.var 64)))] [] [.hp 64 [] [.var 63] [.var 7]]) (.post [.ro 4 [.var 0] true, .ro 5 [.lit 0, .lit 1, .lit 2] false, .hp 63 [60, 51] [.var 7] [], .hp 61 [] [.var 60] [.var 7], .hp 64 [] [.var 63] [.var 7], .hp 66 [] [.var 66] [], .hp 70 [] [.var 70] []] (.sv (.one (.bool (.eq (.var 77) (.var 78))))))))))) (.imp (.not (.eq (.var 75) (.var 76))) (.post [.ro 4 [.var 0] true, .ro 5 [.lit 0, .lit 1, .lit 2] false, .hp 63 [60, 51] [.var 7] [], .hp 61 [] [.var 60] [.var 7], .hp 64 [] [.var 63] [.var 7], .hp 66 [] [.var 66] [], .hp 70 [] [.var 70] []] (.sv (.one (.bool .ff))))))))))) (.imp (.not (.bvar 74)) (.post [.ro 4 [.var 0] true, .ro 5 [.lit 0, .lit 1, .lit 2] false, .hp 63 [60, 51] [.var 7] [], .hp 61 [] [.var 60] [.var 7], .hp 64 [] [.var 63] [.var 7], .hp 66 [] [.var 66] [], .hp 70 [] [.var 70] []] (.sv (.one (.bool .ff))))))))))))) (.imp (.not (.eq (.var 65) (.lit 0))) (.post [.ro 4 [.var 0] true, .ro 5 [.lit 0, .lit 1, .lit 2] false, .hp 63 [60, 51] [.var 7] [], .hp 61 [] [.var 60] [.var 7], .hp 64 [] [.var 63] [.var 7]] (.sv (.one (.bool .ff))))))) (.imp (.not (.eq (.var 62) (.lit 0))) (.post [.ro 4 [.var 0] true, .ro 5 [.lit 0, .lit 1, .lit 2] false, .hp 63 [60, 51] [.var 7] [], .hp 61 [] [.var 60] [.var 7], .hp 64 [] [.var 63] [.var 7]] (.sv (.one (.bool .ff)))))))))))))))))))))) (.imp (.not (.bvar 6)) (.and (.pre (.call 9 7 [] [] [.ro 5 [.lit 0, .lit 1, .lit 2] false])) (.ext (.call 9 7 [] [] [.ro 5 [.lit 0, .lit 1, .lit 2] false]) (.post [.ro 4 [.var 0] true, .ro 5 [.lit 0, .lit 1, .lit 2] false] (.sv (.one (.bool (.bvar 7))))))))))
noncomputable def anyW : Walk Tryd.prog lvΓ anyS.fn where
  Λ := fun p => if lp0 p then some ⟨0, [(4, TI .i64 (.var 50))], [(2, .hp 51 [] [.var 7] [])], 60⟩ else none
  args := [.sv (.one (.sl (.var 0) (.var 1) (.var 2) (.var 3)))]
  mem := [.ro 4 [.var 0] true, .ro 5 [.lit 0, .lit 1, .lit 2] false]
  nv := 6
  nd := anyNd
  ok := by kernel_rfl
theorem anyS_ok : anyS.OK Tryd.prog := by
  refine Spec.of_fn (Γ := lvΓ) lvΓ_ok ?_
  rintro xs Hs Rs hl1 hl2 ⟨v, R, RG, g, rows, rfl, rfl, hB, hby, hG⟩
  have e0 : Hs = [] := List.length_eq_zero_iff.1 hl1
  subst e0
  obtain ⟨us, x, y, c, rfl, hy, hul, hcell, hrd⟩ := id hB
  refine ⟨anyW, envI [x, y, us.length, c] false [Hl.none, Hl.none, Hl.none, Hl.none, R, RG], fun _ q => ∃ (k : Nat) (D : DM), q.i 50 = k ∧ k ≤ rows.length ∧ DiskAt (q.h 51) (.pointer (slP (q.i 7) (q.i 8))) D ∧ Sure D ∧ D.n = rows.length ∧ bytes256 D.now, fun _ q => (rows.length - q.i 50).toNat, ?_, ⟨?_, ?_, ?_, ?_⟩, (fun _ h => nomatch h), ?_⟩
  · show [Value.slice (slP x y) ((us.length : Int)).toNat ((c : Int)).toNat] = _
    rw [Int.toNat_natCast, Int.toNat_natCast]
  · intro r hr ho; simp [anyW] at hr; rcases hr with rfl | rfl <;> cases ho
  · intro r hr ho; simp [anyW] at hr
    rcases hr with rfl | rfl
    · exact ⟨R, by simp, Hl.le_refl _⟩
    · exact ⟨RG, by simp, Hl.le_refl _⟩
  · simp [anyW, Res.own]
  · intro r hr; simp [anyW] at hr; rcases hr with rfl | rfl <;> trivial
  · show Nd.holds _ _ _ anyNd
    generalize hρ : envI [x, y, us.length, c] false [Hl.none, Hl.none, Hl.none, Hl.none, R, RG] = ρ
    have v0 : ρ.i 0 = x := by rw [← hρ]; rfl
    have v1 : ρ.i 1 = y := by rw [← hρ]; rfl
    have v2 : ρ.i 2 = us.length := by rw [← hρ]; rfl
    have w4 : ρ.h 4 = R := by rw [← hρ]; rfl
    have w5 : ρ.h 5 = RG := by rw [← hρ]; rfl
    clear hρ
    unfold anyNd
    simp only [Nd.holds, X.pre, X.rel, X.n, Src.ok, Src.len, Src.vals, true_and, and_true, if_true, Nat.mul_one, Nat.add_zero, Nat.reduceAdd, List.length_cons, List.length_nil, bT_tt, bT_ff, bT_bvar, bT_not, bT_and, bT_or, bT_ite, bT_lt, bT_le, bT_eq, bT_beq, bT_seq, bT_hB, bT_his, bT_hby, bT_hism, bT_hks, iev_lit, iev_var, iev_add, iev_sub, iev_mul, iev_wrap, iev_ite, iev_hI, iev_hP, iev_hmlen, sev_ite, sev_slit, sev_sof, sev_svar, TV.ev, SV.ev, CV.ev, List.map_cons, List.map_nil, Res.hl, cpTV, Cp.sv, Ck.cv, cpSVs, Cp.len, Ck.len, newHs_zero, newHs_one, roots_ne, lvg0, lvg1, lvg2, lvg4, lvg5, lvg6, lvg7, lvg8, lvg9, lwr0, lwr1, lwr2, lwr4, lwr5, lwr6, lwr7, lwr8, lvr9, rptr, rpi, rsl]
    rw [w5]
    refine ⟨⟨RG, g, rfl, rfl, hG⟩, fun q1 g1 ⟨F1, hp1, _⟩ => ?_⟩
    have hb6 : q1.b 6 = true := by
      have h : Value.bool (bev q1 (.bvar 6)) = .bool true := hp1
      rw [bev_bvar] at h
      simpa using h
    rw [g1.i 2 (by omega), g1.h 5 (by omega), v2, w5]
    refine ⟨fun _ => ⟨by omega, fun hlt => ⟨⟨RG, g, rfl, rfl, hG⟩, fun q2 g2 ⟨F2, hp2, _⟩ => ?_⟩, fun hge => ⟨⟨_, rfl⟩, fun q2 g2 ⟨F2, hp2, hF2, _⟩ => ?_⟩⟩, fun h => absurd hb6 h⟩
    · refine yes_out ?_
      have h : Value.bool (bev q2 (.bvar 7)) = .bool true := hp2
      simpa using h
    have hD2 := new_post hp2
    rw [← hF2 trivial] at hD2
    have hlen : rows.length ≤ 16 := by omega
    have hnn : (newD (us.length : Int)).n = rows.length := by show sects _ = _; unfold sects; omega
    refine ⟨⟨0, _, rfl, Nat.zero_le _, hD2, newD_sure _, hnn, newD_bytes _⟩, fun q3 g3 ⟨k, D, ek, hk, hD, hS, hn, hbn⟩ => ?_⟩
    have G3 : Agree 6 ρ q3 := g1.trans ((g2.trans (g3.mono (by omega))).mono (by omega))
    rw [G3.i 0 (by omega), G3.i 1 (by omega), G3.i 2 (by omega), G3.h 4 (by omega), v0, v1, v2, w4, ek]
    refine ⟨fun hlt => ?_, fun hge => ?_⟩
    · have hkr : k < rows.length := by omega
      have hrk : rows[k]? = some rows[k] := List.getElem?_eq_getElem hkr
      have hu : us[k]? = some us[k] := List.getElem?_eq_getElem (by omega)
      obtain ⟨hx0, hc⟩ := hcell k _ hu
      have hRr := hrd k _ _ hu hrk
      have hsl : ∃ a l c, us[k] = Value.slice a l c := (RdW.parts hRr).1
      have hck : R.cell x.toNat (y + (k : Int)).toNat = some us[k] := by rw [show (y + (k : Int)).toNat = y.toNat + k by omega]; exact hc
      rw [hck, sl_parts hsl]
      refine ⟨hx0, hy, by omega, by obtain ⟨_, _, _, e⟩ := hsl; rw [e]; rfl, ⟨_, _, _, _, rfl, rfl, hRr⟩, fun q4 g4 ⟨F4, hp4, hF4, _⟩ => ?_⟩
      have hO4 := full_post hRr hp4
      rw [← hF4 trivial] at hO4
      have hD4 : DiskAt (q4.h 51) (.pointer (slP (q4.i 7) (q4.i 8))) D := by rw [g4.h 51 (by omega), g4.i 7 (by omega), g4.i 8 (by omega)]; exact hD
      have ek4 : q4.i 50 = k := by rw [g4.i 50 (by omega), ek]
      have hhas : D.has (k : Int) = true := by unfold DM.has; rw [hn]; simp only [decide_eq_true_eq]; omega
      have hfl := fullL_length 0 rows[k]
      rw [ek4]
      refine ⟨⟨_, _, _, _, _, _, _, rfl, rfl, rfl, hD4, hO4.rd.w⟩, fun q5 g5 ⟨F5, hp5, _⟩ => ?_⟩
      obtain ⟨hD5, _⟩ := wr_post hD4 hO4.rd.w hp5
      rw [writeR_sure hS hhas hfl] at hD5
      have ek5 : q5.i 50 = k := by rw [g5.i 50 (by omega), ek4]
      have w60 : IntKind.i64.wrap (q5.i 50 + 1) = (k : Int) + 1 := by rw [ek5]; exact wrap_i64 (by omega) (by omega)
      refine ⟨⟨k + 1, _, ?_, by omega, ?_, putD_sure hS hhas hfl, hn, putD_bytes hS.ok hhas hfl hbn (fullL_bytes (hby _ (List.getElem_mem _)))⟩, ?_⟩
      · show IntKind.i64.wrap (q5.i 50 + 1) = _
        rw [w60]; rfl
      · show DiskAt (q5.h 64) (.pointer (slP (q5.i 7) (q5.i 8))) _
        rw [g5.i 7 (by omega), g5.i 8 (by omega)]; exact hD5
      · show ((rows.length : Int) - IntKind.i64.wrap (q5.i 50 + 1)).toNat < _
        rw [w60]; omega
    · refine ⟨⟨_, _, D, rfl, rfl, hD, openB_bytes hbn, openB_bytes hbn⟩, fun q4 g4 ⟨F4, hp4, hF4, hn4⟩ => ?_⟩
      obtain ⟨pv, hD4, hv4, hs4, hz4⟩ := sopen_post hD hp4
      simp only [Value.tuple.injEq, Array.mk.injEq, List.cons.injEq, Value.int.injEq, true_and, and_true] at hv4
      obtain ⟨rfl, h62⟩ := hv4
      have hE : sOpenE D = if D.n / 2 < 3 then 1 else 0 := by unfold sOpenE; rw [hS.gone]; rfl
      rw [g4.i 2 (by omega), G3.i 2 (by omega), v2]
      refine ⟨fun hlt => ?_, fun hge6 => ?_⟩
      · have hE1 : sOpenE D = 1 := by rw [hE, if_pos (by omega)]
        rw [hE1] at h62
        have hz := hz4 (by rw [hE1]; decide)
        have hn4 : -1 ≤ q4.i 60 ∧ 0 ≤ q4.i 61 := hn4.1
        have h60 : q4.i 60 = -1 := by
          rcases Int.lt_or_le (q4.i 60) 0 with h | h
          · omega
          · rw [slP_pos h] at hz; cases hz
        refine ⟨fun _ => yes_out ?_, fun h => absurd h62 h⟩
        rw [bev_eq, iev_var, iev_lit, h60]; rfl
      · have h3 : 3 ≤ D.n / 2 := by rw [hn]; omega
        have hE0 : sOpenE D = 0 := by rw [hE, if_neg (by omega)]
        obtain ⟨hr1, hr2, hr3⟩ := sOpen_recs hS.ok h3
        rw [hE0] at h62
        have hs4 := hs4 hE0
        rw [← hF4 trivial] at hs4
        have e78 : Value.pointer (slP (q4.i 7) (q4.i 8)) = .pointer (slP (q3.i 7) (q3.i 8)) := by rw [g4.i 7 (by omega), g4.i 8 (by omega)]
        rw [e78]
        refine ⟨⟨_, _, D, rfl, rfl, hD4, openB_bytes hbn, openB_bytes hbn⟩, fun q5 g5 ⟨F5, hp5, hF5, _⟩ => ?_⟩
        obtain ⟨pv5, hD5, hv5, hs5, _⟩ := sopen_post hD4 hp5
        simp only [Value.tuple.injEq, Array.mk.injEq, List.cons.injEq, Value.int.injEq, true_and, and_true] at hv5
        obtain ⟨rfl, h65⟩ := hv5
        rw [hE0] at h65
        have hs5 := hs5 hE0
        rw [← hF5 trivial] at hs5
        have h62' : q5.i 62 = 0 := by rw [g5.i 62 (by omega)]; exact h62
        have hs45 : StoreAt (q5.h 61) (.pointer (slP (q5.i 60) (q5.i 61))) (.pointer (slP (q3.i 7) (q3.i 8))) (sOpen D) := by
          rw [g5.h 61 (by omega), g5.i 60 (by omega), g5.i 61 (by omega)]; exact hs4
        refine ⟨fun _ => ⟨fun _ => ⟨⟨_, _, _, _, rfl, rfl, hs45.rd, by omega, hr2⟩, fun q6 g6 ⟨F6, hp6, hF6, hn6⟩ => ?_⟩, fun h => absurd h65 h⟩, fun h => absurd h62' h⟩
        have hR6 := srec_post hs45.rd hp6
        rw [← hF6 trivial] at hR6
        have hs6 : StoreAt (q6.h 64) (.pointer (slP (q6.i 63) (q6.i 64))) (.pointer (slP (q3.i 7) (q3.i 8))) (sOpen D) := by
          rw [g6.h 64 (by omega), g6.i 63 (by omega), g6.i 64 (by omega)]; exact hs5
        refine ⟨⟨_, _, _, _, rfl, rfl, hs6.rd, by omega, hr2⟩, fun q7 g7 ⟨F7, hp7, hF7, hn7⟩ => ?_⟩
        have hR7 := srec_post hs6.rd hp7
        rw [← hF7 trivial] at hR7
        have hR67 : RowsR (q7.h 66) (.slice (slP (q7.i 66) (q7.i 67)) (q7.i 68).toNat (q7.i 69).toNat) (sOpen D).recs := by
          rw [g7.h 66 (by omega), g7.i 66 (by omega), g7.i 67 (by omega), g7.i 68 (by omega), g7.i 69 (by omega)]; exact hR6
        refine ⟨⟨_, _, _, _, _, _, rfl, rfl, hR67.b, hR7.b, by omega⟩, fun q8 g8 ⟨F8, hp8, _⟩ => ?_⟩
        obtain ⟨z8, hz8, hz8'⟩ := rsame_post hR67.b hR7.b hp8
        have h74 : q8.b 74 = true := by
          have h : Value.bool (bev q8 (.bvar 74)) = .bool z8 := hz8
          rw [hz8' rfl, bev_bvar] at h
          simpa using h
        have G58 : Agree 66 q5 q8 := g6.trans ((g7.trans (g8.mono (by omega))).mono (by omega))
        have s1 : ∀ q : Env, Agree 66 q5 q → StoreR (q.h 61) (.pointer (slP (q.i 60) (q.i 61))) (.pointer (slP (q3.i 7) (q3.i 8))) (sOpen D) ∧ StoreR (q.h 64) (.pointer (slP (q.i 63) (q.i 64))) (.pointer (slP (q3.i 7) (q3.i 8))) (sOpen D) := fun q hg => by
          rw [hg.h 61 (by omega), hg.i 60 (by omega), hg.i 61 (by omega), hg.h 64 (by omega), hg.i 63 (by omega), hg.i 64 (by omega)]
          exact ⟨hs45.rd, hs5.rd⟩
        refine ⟨fun _ => ⟨⟨_, _, _, _, rfl, rfl, (s1 q8 G58).1⟩, fun q9 g9 ⟨F9, hp9, _⟩ => ?_⟩, fun h => absurd h74 h⟩
        have h75 := sgen_post (s1 q8 G58).1 hp9
        have G59 : Agree 66 q5 q9 := G58.trans (g9.mono (by omega))
        refine ⟨⟨_, _, _, _, rfl, rfl, (s1 q9 G59).2⟩, fun q10 g10 ⟨F10, hp10, _⟩ => ?_⟩
        have h76 := sgen_post (s1 q9 G59).2 hp10
        have G510 : Agree 66 q5 q10 := G59.trans (g10.mono (by omega))
        have h7576 : q10.i 75 = q10.i 76 := by
          rw [g10.i 75 (by omega)]
          have a : q9.i 75 = genI (sOpen D).LA := by simpa using h75
          have b : q10.i 76 = genI (sOpen D).LA := by simpa using h76
          rw [a, b]
        refine ⟨fun _ => ⟨⟨_, _, _, _, rfl, rfl, (s1 q10 G510).1, by omega⟩, fun q11 g11 ⟨F11, hp11, _⟩ => ?_⟩, fun h => absurd h7576 h⟩
        have h77 := sroom_post (s1 q10 G510).1 hp11
        have G511 : Agree 66 q5 q11 := G510.trans (g11.mono (by omega))
        refine ⟨⟨_, _, _, _, rfl, rfl, (s1 q11 G511).2, by omega⟩, fun q12 g12 ⟨F12, hp12, _⟩ => yes_out ?_⟩
        have h78 := sroom_post (s1 q11 G511).2 hp12
        have a : q11.i 77 = (sOpen D).LA.most - (sOpen D).bA.length := by simpa using h77
        have b : q12.i 78 = (sOpen D).LA.most - (sOpen D).bA.length := by simpa using h78
        rw [bev_eq, iev_var, iev_var, g12.i 77 (by omega), a, b]; simp
end Go.Proofs.YtomdimlnggpgbaaDoor
