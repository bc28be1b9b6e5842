/- Layer 9: what is appended to one log leaves the other; what was packed is taken again; StoreGrows walked. No condition. -/
import Derived.Test.YtomdimlnggpgbaaDoorStM
set_option linter.unusedSimpArgs false
set_option linter.unusedVariables false
set_option linter.constructorNameAsVariable false
namespace Go.Proofs.YtomdimlnggpgbaaDoor.D
open Go Go.Sx
/-- Beyond its own sectors a write turns nothing. -/
theorem putD_out {D : DM} (h : D.ok) {i : Int} (hi : D.has i = true) {bs : List Int} (hb : bs.length = 64) {j : Nat} (hj : ¬ (64 * i.toNat ≤ j ∧ j < 64 * i.toNat + 64)) : (putD D i bs).now[j]? = D.now[j]? := by
  rw [putD_get h hi hb, if_neg hj]
theorem fillGo_out (frm : Nat) (all : List Int) (B : Nat) : ∀ (f i : Nat) (D : DM), Sure D → all.length + 1 ≤ f + i → all.length + 64 * (frm + 2) ≤ 64 * D.n → 64 * (frm + 2) + all.length ≤ 64 * B →
    ∀ j, (j < 64 * frm ∨ 64 * B ≤ j) → (fillGo frm all f i D).2.now[j]? = D.now[j]? := by
  intro f
  induction f with
  | zero =>
    intro i D h h1 h2 h3 j hj
    show (syncR D).2.now[j]? = _
    rw [(syncR_sure h).2.2.1]
  | succ f ih =>
    intro i D h h1 h2 h3 j hj
    have ec : (frm : Int) + 2 + i = ((frm + 2 + i : Nat) : Int) := by omega
    by_cases hlt : 64 * i < all.length
    · have hi : D.has ((frm : Int) + 2 + i) = true := by unfold DM.has; simp only [decide_eq_true_eq]; omega
      have hw := writeR_sure h hi (secA_length all i)
      have e : fillGo frm all (f + 1) i D = fillGo frm all f (i + 1) (putD D ((frm : Int) + 2 + i) (secA all i)) := by
        show (if 64 * i < all.length then _ else _) = _
        rw [if_pos hlt, hw]; simp
      rw [e, ih (i + 1) _ (putD_sure h hi (secA_length all i)) (by omega) h2 h3 j hj, putD_out h.ok hi (secA_length all i)]
      rw [ec, Int.toNat_natCast]; omega
    · have e : fillGo frm all (f + 1) i D = syncR D := by
        show (if 64 * i < all.length then _ else _) = _
        rw [if_neg hlt]
      rw [e, (syncR_sure h).2.2.1]
/-- An appending turns nothing beyond the log's own sectors. -/
theorem Holds.out {D : DM} {frm : Nat} {n : Int} {k : Nat} {all nt : List Int} (h : Holds D frm n k all nt) {b nt' : List Int} (hb : (all.length : Int) + b.length ≤ 64 * (n - 2)) (hk : k < 1000000) (hn' : nt'.length = 16) :
    (appendR D ⟨frm, 64 * (n - 2), k, all.length, nt, false⟩ all b nt').D.n = D.n ∧ ∀ j : Nat, ((j : Int) < 64 * frm ∨ 64 * (frm + n) ≤ (j : Int)) → (appendR D ⟨frm, 64 * (n - 2), k, all.length, nt, false⟩ all b nt').D.now[j]? = D.now[j]? := by
  obtain ⟨r1, r2⟩ := h.rng
  have hDn := h.sure.ok.n
  have hal : (all ++ b).length = all.length + b.length := List.length_append
  obtain ⟨L, hL⟩ : ∃ L : LM, L = ⟨frm, 64 * (n - 2), k, all.length, nt, false⟩ := ⟨_, rfl⟩
  rw [← hL]
  have f1 : L.frm = frm := by rw [hL]
  have f2 : L.most = 64 * (n - 2) := by rw [hL]
  have f3 : L.serial = k := by rw [hL]
  have f4 : L.over = false := by rw [hL]
  obtain ⟨F, hF⟩ : ∃ F, F = (fillR D L.frm (all ++ b) all.length).2 := ⟨_, rfl⟩
  obtain ⟨a1, a2, a3, _, _⟩ := fillGo_sure frm (all ++ b) ((all ++ b).length + 1) (all.length / 64) D h.sure (by omega) (by omega)
  have ao := fillGo_out frm (all ++ b) (frm + n.toNat) ((all ++ b).length + 1) (all.length / 64) D h.sure (by omega) (by omega) (by omega)
  have efr : fillR D L.frm (all ++ b) all.length = fillGo frm (all ++ b) ((all ++ b).length + 1) (all.length / 64) D := by
    unfold fillR
    rw [f1, show (((all.length : Nat) : Int) / 64).toNat = all.length / 64 by omega]
  rw [← efr] at a1 a2 a3 ao
  rw [← hF] at a2 a3 ao
  obtain ⟨N, hN⟩ : ∃ N, N = newH L (all ++ b) nt' := ⟨_, rfl⟩
  have eN : N = ((k + 1 : Nat) : Int) :: ((all ++ b).length : Int) :: nt' := by
    rw [hN]; unfold newH; rw [f3]; rfl
  have hp : ((k + 1 : Nat) : Int).tmod 2 = (((k + 1) % 2 : Nat) : Int) := by
    rw [Int.tmod_eq_emod_of_nonneg (by omega)]; omega
  obtain ⟨p, hpp⟩ : ∃ p, p = (k + 1) % 2 := ⟨_, rfl⟩
  have hp2 : p < 2 := by omega
  obtain ⟨b1, _⟩ := half_head (a := ((k + 1 : Nat) : Int)) (b := ((all ++ b).length : Int)) (nt := nt') ⟨by omega, by omega⟩ ⟨by omega, by omega⟩ hn'
  rw [← eN] at b1
  have hhl : (halfL N ++ halfL N).length = 64 := by rw [List.length_append, b1]
  have ei : ∀ q : Nat, (frm : Int) + ((q : Nat) : Int) = ((frm + q : Nat) : Int) := fun q => by omega
  have hasF : F.has ((frm : Int) + (p : Int)) = true := by unfold DM.has; rw [a3]; simp only [decide_eq_true_eq]; omega
  have hw := writeR_sure a2 hasF hhl
  obtain ⟨G, hG⟩ : ∃ G, G = putD F ((frm : Int) + (p : Int)) (halfL N ++ halfL N) := ⟨_, rfl⟩
  rw [← hG] at hw
  have hGs : Sure G := by rw [hG]; exact putD_sure a2 hasF hhl
  have hGn : G.n = D.n := by rw [hG, ← a3]; rfl
  obtain ⟨s1, s2, s3, s4⟩ := syncR_sure hGs
  have htn : turnR F L.frm N = syncR G := by
    unfold turnR
    have e0 : N.getD 0 0 = ((k + 1 : Nat) : Int) := by rw [eN]; rfl
    rw [f1, e0, hp, ← hpp, hw]; simp
  have hbec : becomeR D L (all ++ b) nt' all.length = (0, (syncR G).2) := by
    unfold becomeR
    rw [if_neg (by rw [a1]; simp), ← hF, ← hN, htn, if_neg (by rw [s1]; simp)]
  have happ : appendR D L all b nt' = ⟨0, (syncR G).2, grownL L (all ++ b) nt', all ++ b⟩ := by
    unfold appendR
    rw [f4, f3, f2, if_neg (by simp), if_neg (by omega), if_neg (by omega), hbec]; rfl
  rw [happ]
  refine ⟨s4.trans hGn, fun j hj => ?_⟩
  show (syncR G).2.now[j]? = _
  rw [s3, hG, putD_out a2.ok hasF hhl (by rw [ei p, Int.toNat_natCast]; omega)]
  exact ao j (by omega)
/-- A log whose sectors are as they were holds what it held. -/
theorem Holds.keep {D D' : DM} {frm : Nat} {n : Int} {k : Nat} {all nt : List Int} (h : Holds D frm n k all nt) (hs : Sure D') (hn : D'.n = D.n) (hsame : ∀ j : Nat, 64 * (frm : Int) ≤ j → (j : Int) < 64 * (frm + n) → D'.now[j]? = D.now[j]?) : Holds D' frm n k all nt := by
  obtain ⟨r1, r2⟩ := h.rng
  have hl := h.len
  have rd : ∀ q : Nat, q < 2 → lreadR D' frm (64 * (n - 2)) (q : Int) = lreadR D frm (64 * (n - 2)) (q : Int) := by
    intro q hq
    refine lread_same h.sure hs hn (by unfold DM.has; simp only [decide_eq_true_eq]; omega) (sector_same fun j h1 h2 => hsame j ?_ ?_)
    · omega
    · omega
  refine ⟨hs, ⟨r1, by rw [hn]; exact r2⟩, hl, h.note, ?_, ?_, fun t z ht => ?_⟩
  · rw [rd _ (by omega)]; exact h.cur
  · have e1 : lreadR D' frm (64 * (n - 2)) 1 = lreadR D frm (64 * (n - 2)) 1 := rd 1 (by omega)
    rw [rd _ (by omega), e1]; exact h.oth
  · have hlt := (List.getElem?_eq_some_iff.1 ht).1
    rw [hsame _ (by omega) (by omega)]
    exact h.bytes t z ht
end Go.Proofs.YtomdimlnggpgbaaDoor.D
namespace Go.Proofs.YtomdimlnggpgbaaDoor
open Go Go.Sx Go.Pk
open Go.Proofs.YtomdimlnggpgbaaDoor.D hiding envI noLoops numS
theorem tx_text {r rest : List Int} (h : r.length ≤ 4096) : tx (textBytes r ++ rest) = (r, rest, false) := by
  have e : numR (textBytes r ++ rest) = (r.length, (numB r.length).length) := by
    unfold numR textBytes
    rw [List.append_assoc, numAt_enc (by omega)]
    rfl
  have hp := numB_pos r.length
  unfold tx inText
  rw [e, if_neg]
  · show (((textBytes r ++ rest).drop (numB r.length).length).take r.length, (textBytes r ++ rest).drop ((numB r.length).length + r.length), false) = _
    unfold textBytes
    rw [List.append_assoc, List.drop_left' rfl, List.take_left' rfl, ← List.drop_drop, List.drop_left' rfl, List.drop_left' rfl]
  · show ¬ (false = true ∨ (numB r.length).length = 0 ∨ (4096 : Int) < 0 ∨ min (min 4096 4096) (((textBytes r ++ rest).length : Int) - ((numB r.length).length : Nat)) < ((r.length : Nat) : Int))
    have : (textBytes r ++ rest).length = (numB r.length).length + r.length + rest.length := by unfold textBytes; simp; omega
    rw [this]
    simp only [Bool.false_eq_true, false_or]
    omega
theorem packB_cons (r : List Int) (rows : List (List Int)) : packB (r :: rows) = textBytes r ++ packB rows := rfl
theorem packB_one (r : List Int) : packB [r] = textBytes r := by rw [packB_cons]; exact List.append_nil _
theorem packB_append (a b : List (List Int)) : packB (a ++ b) = packB a ++ packB b := by unfold packB; rw [List.map_append, List.flatten_append]
/-- What was packed is taken again. -/
theorem takenL_pack : ∀ {rows : List (List Int)}, packOk rows → takenL (packB rows) = rows
  | [], _ => rfl
  | r :: rows, h => by
    have hr := h r (List.mem_cons_self ..)
    have hp := numB_pos r.length
    rw [packB_cons, takenL_at (by intro e; have := congrArg List.length e; unfold textBytes at this; rw [List.length_append, List.length_append] at this; simp only [List.length_nil] at this; omega), tx_text hr, if_neg (by simp)]
    show r :: takenL (packB rows) = _
    rw [takenL_pack fun s hs => h s (List.mem_cons_of_mem _ hs)]
theorem textBytes_len {r : List Int} (h : r.length ≤ 100) : (textBytes r).length ≤ 101 := by
  unfold textBytes
  rw [numB_low (by omega)]; simp; omega
theorem packB_len : ∀ {rows : List (List Int)}, (∀ r ∈ rows, r.length ≤ 100) → (packB rows).length ≤ 101 * rows.length
  | [], _ => Nat.le_refl _
  | r :: rows, h => by
    have h1 := textBytes_len (h r (List.mem_cons_self ..))
    have h2 := packB_len (rows := rows) fun s hs => h s (List.mem_cons_of_mem _ hs)
    rw [packB_cons, List.length_append, List.length_cons]; omega
end Go.Proofs.YtomdimlnggpgbaaDoor
namespace Go.Proofs.YtomdimlnggpgbaaDoor
open Go Go.Sx Go.Pk
open Go.Proofs.YtomdimlnggpgbaaDoor.D hiding envI noLoops numS
def low0 (k : Nat) (all : List Int) : LM := ⟨0, 6272, k, all.length, z16, false⟩
def high0 : LM := ⟨100, 6272, 0, 0, z16, false⟩
structure GI (D : DM) (rows : List (List Int)) (k : Nat) : Prop where
  n : D.n = 200
  lo : Holds D 0 100 k (packB (rows.take k)) z16
  hi : Holds D 100 100 0 [] z16
  short : ∀ r ∈ rows.take k, r.length ≤ 100
theorem packB_bytes {rows : List (List Int)} (h : ∀ r ∈ rows, bytes256 r) : bytes256 (packB rows) := by
  intro z hz
  unfold packB at hz
  obtain ⟨l, hl, hz⟩ := List.mem_flatten.1 hz
  obtain ⟨r, hr, rfl⟩ := List.mem_map.1 hl
  unfold textBytes at hz
  rcases List.mem_append.1 hz with h1 | h1
  · exact numB_byte _ z h1
  · exact h r hr z h1
theorem GI.new (rows : List (List Int)) : GI (newD 200) rows 0 where
  n := rfl
  lo := newD_holds (by omega) (by omega) (by omega)
  hi := newD_holds (by omega) (by omega) (by omega)
  short := fun r hr => by simp at hr
theorem GI.ok {D : DM} {rows : List (List Int)} {k : Nat} (h : GI D rows k) : packOk (rows.take k) := fun r hr => by have := h.short r hr; omega
theorem GI.open {D : DM} {rows : List (List Int)} {k : Nat} (h : GI D rows k) : sOpenE D = 0 ∧ sOpen D = ⟨low0 k (packB (rows.take k)), packB (rows.take k), high0, [], rows.take k, false⟩ ∧ lowB D = packB (rows.take k) ∧ highB D = [] := by
  have e1 : lowL D = low0 k (packB (rows.take k)) := by unfold lowL; rw [h.n]; exact h.lo.openL
  have e2 : highL D = high0 := by unfold highL; rw [h.n]; exact h.hi.openL
  have e3 : lowB D = packB (rows.take k) := by unfold lowB; rw [h.n]; exact h.lo.openB
  have e4 : highB D = [] := by unfold highB; rw [h.n]; exact h.hi.openB
  refine ⟨?_, ?_, e3, e4⟩
  · unfold sOpenE
    rw [h.n, h.lo.sure.gone, if_neg (by decide)]; rfl
  · unfold sOpen
    rw [e1, e2, e3, e4, if_neg (by show ¬ bigI _ < bigI _; exact Int.lt_irrefl _)]
    unfold mkS
    rw [takenL_pack h.ok]
theorem GI.room {D : DM} {rows : List (List Int)} {k : Nat} (h : GI D rows k) (hk : k ≤ 20) : (packB (rows.take k)).length ≤ 2020 := by
  have := packB_len h.short
  have hl : (rows.take k).length ≤ k := by rw [List.length_take]; omega
  have : 101 * (rows.take k).length ≤ 101 * 20 := Nat.mul_le_mul_left _ (by omega)
  omega
theorem GI.step {D : DM} {rows : List (List Int)} {k : Nat} {r : List Int} (h : GI D rows k) (hk : rows[k]? = some r) (hr : r.length ≤ 100) (hk20 : k < 20) : (addR D (sOpen D) [r]).e = 0 ∧ GI (addR D (sOpen D) [r]).D rows (k + 1) := by
  obtain ⟨_, hS, _, _⟩ := h.open
  have hroom := h.room (by omega)
  have hone : (packB [r]).length ≤ 101 := by rw [packB_one]; exact textBytes_len hr
  have hcap : (((packB (rows.take k)).length : Nat) : Int) + ((packB [r]).length : Nat) ≤ 64 * ((100 : Int) - 2) := by omega
  obtain ⟨a1, a2, a3, a4⟩ := h.lo.append (b := packB [r]) (nt' := z16) hcap (by omega) rfl
  obtain ⟨o1, o2⟩ := h.lo.out (b := packB [r]) (nt' := z16) hcap (by omega) rfl
  have hok : packOk [r] := fun s hs => by rw [List.mem_singleton] at hs; subst hs; omega
  rw [hS]
  obtain ⟨b1, b2, b3⟩ := addR_ok (D := D) (S := ⟨low0 k (packB (rows.take k)), packB (rows.take k), high0, [], rows.take k, false⟩) (rows := [r]) rfl hok (by simp) (by show ((packB [r]).length : Int) ≤ 6272 - ((packB (rows.take k)).length : Int); omega) a1
  refine ⟨b1, ?_⟩
  rw [b2]
  have hpk := packB_take hk
  refine ⟨o1.trans h.n, ?_, ?_, fun s hs => ?_⟩
  · rw [hpk, ← packB_one r]; exact a2
  · exact h.hi.keep a2.sure o1 fun j h1 h2 => o2 j (Or.inr (by omega))
  · rw [List.take_add_one, hk, Option.toList_some] at hs
    rcases List.mem_append.1 hs with h1 | h1
    · exact h.short s h1
    · rw [List.mem_singleton] at h1; subst h1; exact hr
/-- All at once. -/
theorem GI.all {rows : List (List Int)} (hr : ∀ r ∈ rows, r.length ≤ 100) (hn : rows.length ≤ 20) : (addR (newD 200) (sOpen (newD 200)) rows).e = 0 ∧ (addR (newD 200) (sOpen (newD 200)) rows).S.recs = rows ∧ (addR (newD 200) (sOpen (newD 200)) rows).S.LA.most = 6272 ∧ (addR (newD 200) (sOpen (newD 200)) rows).S.bA = packB rows := by
  have h := GI.new rows
  obtain ⟨_, hS, _, _⟩ := h.open
  have hlen := packB_len hr
  have : 101 * rows.length ≤ 101 * 20 := Nat.mul_le_mul_left _ hn
  have hok : packOk rows := fun r hm => by have := hr r hm; omega
  rw [hS]
  by_cases hne : rows = []
  · subst hne
    have e : addR (newD 200) ⟨low0 0 (packB (List.take 0 [])), packB (List.take 0 []), high0, [], List.take 0 [], false⟩ [] = ⟨0, newD 200, ⟨low0 0 (packB (List.take 0 [])), packB (List.take 0 []), high0, [], List.take 0 [], false⟩⟩ := by
      unfold addR
      rw [if_neg (by simp), if_neg (fun h => h hok), if_pos rfl]
    rw [e]
    exact ⟨rfl, rfl, rfl, rfl⟩
  · obtain ⟨a1, a2, a3, a4⟩ := h.lo.append (b := packB rows) (nt' := z16) (by show ((([] : List Int).length : Nat) : Int) + _ ≤ _; simp; omega) (by omega) rfl
    obtain ⟨b1, b2, b3⟩ := addR_ok (D := newD 200) (S := ⟨low0 0 (packB (rows.take 0)), packB (rows.take 0), high0, [], rows.take 0, false⟩) (rows := rows) rfl hok hne (by show ((packB rows).length : Int) ≤ 6272 - 0; omega) a1
    refine ⟨b1, ?_, ?_, ?_⟩
    · rw [b3]; rfl
    · rw [b3]
      exact congrArg LM.most a4
    · rw [b3]
      exact a3
end Go.Proofs.YtomdimlnggpgbaaDoor
namespace Go.Proofs.YtomdimlnggpgbaaDoor
open Go Go.Sx Go.Pk
open Go.Proofs.YtomdimlnggpgbaaDoor.D hiding envI noLoops numS

def growS : Sx.Spec := yes 3 (fun xs Rs => ∃ v R RG g rows, xs = [v] ∧ Rs = [R, RG] ∧ RowsB R R v rows ∧ (∀ r ∈ rows, bytes256 r) ∧ Gl RG g) [0, 2000000]
def growNd : Nd := .and (.pre (.call 9 6 [] [] [.ro 5 [.lit 0, .lit 1, .lit 2] false])) (.ext (.call 9 6 [] [] [.ro 5 [.lit 0, .lit 1, .lit 2] false]) (.and (.imp (.bvar 6) (.and (.e (.le (.lit 0) (.var 2))) (.and (.imp (.lt (.lit 20) (.var 2)) (.and (.pre (.call 9 7 [] [] [.ro 5 [.lit 0, .lit 1, .lit 2] false])) (.ext (.call 9 7 [] [] [.ro 5 [.lit 0, .lit 1, .lit 2] false]) (.post [.ro 4 [.var 0] true, .ro 5 [.lit 0, .lit 1, .lit 2] false] (.sv (.one (.bool (.bvar 7)))))))) (.imp (.not (.lt (.lit 20) (.var 2))) (.and (.pre (.call 0 7 [.sv (.one (.int .i64 (.lit 200)))] [] [])) (.ext (.call 0 7 [.sv (.one (.int .i64 (.lit 200)))] [] []) (.and (.pre (.call 0 9 [.sv (.one (.int .i64 (.lit 200)))] [] [])) (.ext (.call 0 9 [.sv (.one (.int .i64 (.lit 200)))] [] []) (.and (.pre (.call 1 11 [.sv (.one (.hptr (.var 7) (.var 8)))] [.hp 7 [] [.var 7] []] [])) (.ext (.call 1 11 [.sv (.one (.hptr (.var 7) (.var 8)))] [.hp 7 [] [.var 7] []] []) (.and (.imp (.not (.eq (.var 13) (.lit 0))) (.post [.ro 4 [.var 0] true, .ro 5 [.lit 0, .lit 1, .lit 2] false, .hp 11 [7] [.var 7] [], .hp 9 [] [.var 9] [], .hp 12 [] [.var 11] [.var 7]] (.sv (.one (.bool .ff))))) (.imp (.eq (.var 13) (.lit 0)) (.and (.inv 0 [⟨50, 0, .int .i64 (.lit 0)⟩] [(51, some 9)]) (.havoc 0 0 14 (.and (.imp (.lt (.var 50) (.var 2)) (.and (.e (.le (.lit 0) (.var 0))) (.and (.e (.le (.lit 0) (.var 1))) (.and (.e (.le (.lit 0) (.var 50))) (.and (.e (.his 4 (.var 0) (.add (.var 1) (.var 50)) 0 .slice)) (.and (.e (.le (.lit 0) (.hP 4 (.var 0) (.add (.var 1) (.var 50)) 0 2))) (.and (.imp (.lt (.lit 100) (.hP 4 (.var 0) (.add (.var 1) (.var 50)) 0 2)) (.post [.ro 4 [.var 0] true, .ro 5 [.lit 0, .lit 1, .lit 2] false, .hp 11 [7] [.var 7] [], .hp 51 [] [.var 9] [], .hp 12 [] [.var 11] [.var 7]] (.sv (.one (.bool .tt))))) (.imp (.not (.lt (.lit 100) (.hP 4 (.var 0) (.add (.var 1) (.var 50)) 0 2))) (.and (.pre (.call 1 60 [.sv (.one (.hptr (.var 9) (.var 10)))] [.hp 51 [] [.var 9] []] [])) (.ext (.call 1 60 [.sv (.one (.hptr (.var 9) (.var 10)))] [.hp 51 [] [.var 9] []] []) (.and (.imp (.eq (.var 62) (.lit 0)) (.ext (.alloc 63) (.and (.pre (.call 3 64 [.sv (.one (.hptr (.var 60) (.var 61))), .sv (.one (.sl (.var 63) (.lit 0) (.lit 1) (.lit 1)))] [.hp 61 [] [.var 60] [.var 9], .hp 60 [51] [.var 9] []] [.blk 63 [.sl (.hP 4 (.var 0) (.add (.var 1) (.var 50)) 0 0) (.hP 4 (.var 0) (.add (.var 1) (.var 50)) 0 1) (.hP 4 (.var 0) (.add (.var 1) (.var 50)) 0 2) (.hP 4 (.var 0) (.add (.var 1) (.var 50)) 0 3)] 30, .ro 4 [.var 0] true, .ro 5 [.lit 0, .lit 1, .lit 2] false])) (.ext (.call 3 64 [.sv (.one (.hptr (.var 60) (.var 61))), .sv (.one (.sl (.var 63) (.lit 0) (.lit 1) (.lit 1)))] [.hp 61 [] [.var 60] [.var 9], .hp 60 [51] [.var 9] []] [.blk 63 [.sl (.hP 4 (.var 0) (.add (.var 1) (.var 50)) 0 0) (.hP 4 (.var 0) (.add (.var 1) (.var 50)) 0 1) (.hP 4 (.var 0) (.add (.var 1) (.var 50)) 0 2) (.hP 4 (.var 0) (.add (.var 1) (.var 50)) 0 3)] 30, .ro 4 [.var 0] true, .ro 5 [.lit 0, .lit 1, .lit 2] false]) (.and (.imp (.not (.eq (.var 64) (.lit 0))) (.post [.ro 4 [.var 0] true, .ro 5 [.lit 0, .lit 1, .lit 2] false, .hp 11 [7] [.var 7] [], .hp 65 [60, 51] [.var 9] [], .hp 12 [] [.var 11] [.var 7], .hp 64 [61] [.var 60] [.var 9], .dead] (.sv (.one (.bool .ff))))) (.imp (.eq (.var 64) (.lit 0)) (.back 0 0 [⟨50, 0, .int .i64 (.wrap .i64 (.add (.var 50) (.lit 1)))⟩] [(51, some 65)]))))))) (.imp (.not (.eq (.var 62) (.lit 0))) (.post [.ro 4 [.var 0] true, .ro 5 [.lit 0, .lit 1, .lit 2] false, .hp 11 [7] [.var 7] [], .hp 60 [51] [.var 9] [], .hp 12 [] [.var 11] [.var 7], .hp 61 [] [.var 60] [.var 9]] (.sv (.one (.bool .ff)))))))))))))))) (.imp (.not (.lt (.var 50) (.var 2))) (.and (.pre (.call 1 60 [.sv (.one (.hptr (.var 9) (.var 10)))] [.hp 51 [] [.var 9] []] [])) (.ext (.call 1 60 [.sv (.one (.hptr (.var 9) (.var 10)))] [.hp 51 [] [.var 9] []] []) (.and (.imp (.eq (.var 62) (.lit 0)) (.and (.pre (.call 3 63 [.sv (.one (.hptr (.var 11) (.var 12))), .sv (.one (.sl (.var 0) (.var 1) (.var 2) (.var 3)))] [.hp 12 [] [.var 11] [.var 7], .hp 11 [7] [.var 7] []] [.ro 4 [.var 0] true, .ro 4 [.var 0] true, .ro 5 [.lit 0, .lit 1, .lit 2] false])) (.ext (.call 3 63 [.sv (.one (.hptr (.var 11) (.var 12))), .sv (.one (.sl (.var 0) (.var 1) (.var 2) (.var 3)))] [.hp 12 [] [.var 11] [.var 7], .hp 11 [7] [.var 7] []] [.ro 4 [.var 0] true, .ro 4 [.var 0] true, .ro 5 [.lit 0, .lit 1, .lit 2] false]) (.and (.imp (.eq (.var 63) (.lit 0)) (.and (.pre (.call 4 66 [.sv (.one (.hptr (.var 11) (.var 12)))] [] [.hp 63 [12] [.var 11] [.var 7]])) (.ext (.call 4 66 [.sv (.one (.hptr (.var 11) (.var 12)))] [] [.hp 63 [12] [.var 11] [.var 7]]) (.and (.pre (.call 4 70 [.sv (.one (.hptr (.var 60) (.var 61)))] [] [.hp 61 [] [.var 60] [.var 9]])) (.ext (.call 4 70 [.sv (.one (.hptr (.var 60) (.var 61)))] [] [.hp 61 [] [.var 60] [.var 9]]) (.and (.pre (.call 5 74 [.sv (.one (.sl (.var 66) (.var 67) (.var 68) (.var 69))), .sv (.one (.sl (.var 70) (.var 71) (.var 72) (.var 73)))] [] [.hp 66 [] [.var 66] [], .hp 70 [] [.var 70] []])) (.ext (.call 5 74 [.sv (.one (.sl (.var 66) (.var 67) (.var 68) (.var 69))), .sv (.one (.sl (.var 70) (.var 71) (.var 72) (.var 73)))] [] [.hp 66 [] [.var 66] [], .hp 70 [] [.var 70] []]) (.and (.imp (.bvar 74) (.and (.pre (.call 4 75 [.sv (.one (.hptr (.var 11) (.var 12)))] [] [.hp 63 [12] [.var 11] [.var 7]])) (.ext (.call 4 75 [.sv (.one (.hptr (.var 11) (.var 12)))] [] [.hp 63 [12] [.var 11] [.var 7]]) (.and (.pre (.call 5 79 [.sv (.one (.sl (.var 75) (.var 76) (.var 77) (.var 78))), .sv (.one (.sl (.var 0) (.var 1) (.var 2) (.var 3)))] [] [.hp 75 [] [.var 75] [], .ro 4 [.var 0] true])) (.ext (.call 5 79 [.sv (.one (.sl (.var 75) (.var 76) (.var 77) (.var 78))), .sv (.one (.sl (.var 0) (.var 1) (.var 2) (.var 3)))] [] [.hp 75 [] [.var 75] [], .ro 4 [.var 0] true]) (.and (.imp (.bvar 79) (.and (.pre (.call 2 80 [.sv (.one (.hptr (.var 11) (.var 12)))] [] [.hp 63 [12] [.var 11] [.var 7]])) (.ext (.call 2 80 [.sv (.one (.hptr (.var 11) (.var 12)))] [] [.hp 63 [12] [.var 11] [.var 7]]) (.and (.pre (.call 2 81 [.sv (.one (.hptr (.var 60) (.var 61)))] [] [.hp 61 [] [.var 60] [.var 9]])) (.ext (.call 2 81 [.sv (.one (.hptr (.var 60) (.var 61)))] [] [.hp 61 [] [.var 60] [.var 9]]) (.post [.ro 4 [.var 0] true, .ro 5 [.lit 0, .lit 1, .lit 2] false, .hp 64 [11, 7] [.var 7] [], .hp 60 [51] [.var 9] [], .hp 63 [12] [.var 11] [.var 7], .hp 61 [] [.var 60] [.var 9], .hp 66 [] [.var 66] [], .hp 70 [] [.var 70] [], .hp 75 [] [.var 75] []] (.sv (.one (.bool (.eq (.var 80) (.var 81))))))))))) (.imp (.not (.bvar 79)) (.post [.ro 4 [.var 0] true, .ro 5 [.lit 0, .lit 1, .lit 2] false, .hp 64 [11, 7] [.var 7] [], .hp 60 [51] [.var 9] [], .hp 63 [12] [.var 11] [.var 7], .hp 61 [] [.var 60] [.var 9], .hp 66 [] [.var 66] [], .hp 70 [] [.var 70] [], .hp 75 [] [.var 75] []] (.sv (.one (.bool .ff))))))))))) (.imp (.not (.bvar 74)) (.post [.ro 4 [.var 0] true, .ro 5 [.lit 0, .lit 1, .lit 2] false, .hp 64 [11, 7] [.var 7] [], .hp 60 [51] [.var 9] [], .hp 63 [12] [.var 11] [.var 7], .hp 61 [] [.var 60] [.var 9], .hp 66 [] [.var 66] [], .hp 70 [] [.var 70] []] (.sv (.one (.bool .ff))))))))))))) (.imp (.not (.eq (.var 63) (.lit 0))) (.post [.ro 4 [.var 0] true, .ro 5 [.lit 0, .lit 1, .lit 2] false, .hp 64 [11, 7] [.var 7] [], .hp 60 [51] [.var 9] [], .hp 63 [12] [.var 11] [.var 7], .hp 61 [] [.var 60] [.var 9]] (.sv (.one (.bool .ff))))))))) (.imp (.not (.eq (.var 62) (.lit 0))) (.post [.ro 4 [.var 0] true, .ro 5 [.lit 0, .lit 1, .lit 2] false, .hp 11 [7] [.var 7] [], .hp 60 [51] [.var 9] [], .hp 12 [] [.var 11] [.var 7], .hp 61 [] [.var 60] [.var 9]] (.sv (.one (.bool .ff)))))))))))))))))))))))) (.imp (.not (.bvar 6)) (.and (.pre (.call 9 7 [] [] [.ro 5 [.lit 0, .lit 1, .lit 2] false])) (.ext (.call 9 7 [] [] [.ro 5 [.lit 0, .lit 1, .lit 2] false]) (.post [.ro 4 [.var 0] true, .ro 5 [.lit 0, .lit 1, .lit 2] false] (.sv (.one (.bool (.bvar 7))))))))))
noncomputable def growW : Walk Tryd.prog lvΓ growS.fn where
  Λ := fun p => if lp0 p then some ⟨0, [(7, TI .i64 (.var 50))], [(3, .hp 51 [] [.var 9] [])], 60⟩ else none
  args := [.sv (.one (.sl (.var 0) (.var 1) (.var 2) (.var 3)))]
  mem := [.ro 4 [.var 0] true, .ro 5 [.lit 0, .lit 1, .lit 2] false]
  nv := 6
  nd := growNd
  ok := by kernel_rfl
theorem sopen_pre {dp : Value} {H : Hl} {D : DM} (h : DiskAt H dp D) (h1 : bytes256 (lowB D)) (h2 : bytes256 (highB D)) : sopenS.pre [dp] [H] [] := ⟨_, _, _, rfl, rfl, h, h1, h2⟩
theorem growS_ok : growS.OK Tryd.prog := by
  refine Spec.of_fn (Γ := lvΓ) lvΓ_ok ?_
  rintro xs Hs Rs hl1 hl2 ⟨v, R, RG, g, rows, rfl, rfl, hB, hby, hG⟩
  have e0 : Hs = [] := List.length_eq_zero_iff.1 hl1
  subst e0
  obtain ⟨us, x, y, c, rfl, hy, hul, hcell, hrd⟩ := id hB
  refine ⟨growW, envI [x, y, us.length, c] false [Hl.none, Hl.none, Hl.none, Hl.none, R, RG], fun _ q => ∃ (k : Nat) (D : DM), q.i 50 = k ∧ k ≤ rows.length ∧ DiskAt (q.h 51) (.pointer (slP (q.i 9) (q.i 10))) D ∧ GI D rows k, fun _ q => (rows.length - q.i 50).toNat, ?_, ⟨?_, ?_, ?_, ?_⟩, (fun _ h => nomatch h), ?_⟩
  · show [Value.slice (slP x y) ((us.length : Int)).toNat ((c : Int)).toNat] = _
    rw [Int.toNat_natCast, Int.toNat_natCast]
  · intro r hr ho; simp [growW] at hr; rcases hr with rfl | rfl <;> cases ho
  · intro r hr ho; simp [growW] at hr
    rcases hr with rfl | rfl
    · exact ⟨R, by simp, Hl.le_refl _⟩
    · exact ⟨RG, by simp, Hl.le_refl _⟩
  · simp [growW, Res.own]
  · intro r hr; simp [growW] at hr; rcases hr with rfl | rfl <;> trivial
  · show Nd.holds _ _ _ growNd
    generalize hρ : envI [x, y, us.length, c] false [Hl.none, Hl.none, Hl.none, Hl.none, R, RG] = ρ
    have v0 : ρ.i 0 = x := by rw [← hρ]; rfl
    have v1 : ρ.i 1 = y := by rw [← hρ]; rfl
    have v2 : ρ.i 2 = us.length := by rw [← hρ]; rfl
    have v3 : ρ.i 3 = c := by rw [← hρ]; rfl
    have w4 : ρ.h 4 = R := by rw [← hρ]; rfl
    have w5 : ρ.h 5 = RG := by rw [← hρ]; rfl
    clear hρ
    unfold growNd
    simp only [Nd.holds, X.pre, X.rel, X.n, Src.ok, Src.len, Src.vals, true_and, and_true, if_true, Nat.mul_one, Nat.add_zero, Nat.reduceAdd, List.length_cons, List.length_nil, bT_tt, bT_ff, bT_bvar, bT_not, bT_and, bT_or, bT_ite, bT_lt, bT_le, bT_eq, bT_beq, bT_seq, bT_hB, bT_his, bT_hby, bT_hism, bT_hks, iev_lit, iev_var, iev_add, iev_sub, iev_mul, iev_wrap, iev_ite, iev_hI, iev_hP, iev_hmlen, sev_ite, sev_slit, sev_sof, sev_svar, TV.ev, SV.ev, CV.ev, List.map_cons, List.map_nil, Res.hl, cpTV, Cp.sv, Ck.cv, cpSVs, Cp.len, Ck.len, newHs_zero, newHs_one, roots_ne, lvg0, lvg1, lvg2, lvg3, lvg4, lvg5, lvg9, lwr0, lwr1, lwr2, lwr3, lwr4, lwr5, lvr9, rptr, rpi, rsl]
    rw [w5]
    refine ⟨⟨RG, g, rfl, rfl, hG⟩, fun q1 g1 ⟨F1, hp1, _⟩ => ?_⟩
    have hb6 : q1.b 6 = true := by
      have h : Value.bool (bev q1 (.bvar 6)) = .bool true := hp1
      rw [bev_bvar] at h
      simpa using h
    rw [g1.i 2 (by omega), g1.h 5 (by omega), v2, w5]
    refine ⟨fun _ => ⟨by omega, fun hlt => ⟨⟨RG, g, rfl, rfl, hG⟩, fun q2 g2 ⟨F2, hp2, _⟩ => ?_⟩, fun hge => ⟨⟨_, rfl⟩, fun q2 g2 ⟨F2, hp2, hF2, _⟩ => ?_⟩⟩, fun h => absurd hb6 h⟩
    · refine yes_out ?_
      have h : Value.bool (bev q2 (.bvar 7)) = .bool true := hp2
      simpa using h
    have hlen : rows.length ≤ 20 := by omega
    have hDa := new_post hp2
    rw [← hF2 trivial] at hDa
    refine ⟨⟨_, rfl⟩, fun q3 g3 ⟨F3, hp3, hF3, _⟩ => ?_⟩
    have hDb := new_post hp3
    rw [← hF3 trivial] at hDb
    have hDa3 : DiskAt (q3.h 7) (.pointer (slP (q3.i 7) (q3.i 8))) (newD 200) := by rw [g3.h 7 (by omega), g3.i 7 (by omega), g3.i 8 (by omega)]; exact hDa
    have hI0 := GI.new rows
    obtain ⟨oE, oS, oL, oH⟩ := hI0.open
    refine ⟨sopen_pre hDa3 (by rw [oL]; exact fun z hz => by cases hz) (by rw [oH]; exact fun z hz => by cases hz), fun q4 g4 ⟨F4, hp4, hF4, _⟩ => ?_⟩
    obtain ⟨pv, hD4, hv4, hs4, _⟩ := sopen_post hDa3 hp4
    simp only [Value.tuple.injEq, Array.mk.injEq, List.cons.injEq, Value.int.injEq, true_and, and_true] at hv4
    obtain ⟨rfl, h13⟩ := hv4
    rw [oE] at h13
    have hs4 := hs4 oE
    rw [← hF4 trivial] at hs4
    have hDb4 : DiskAt (q4.h 9) (.pointer (slP (q4.i 9) (q4.i 10))) (newD 200) := by rw [g4.h 9 (by omega), g4.i 9 (by omega), g4.i 10 (by omega)]; exact hDb
    refine ⟨fun h => absurd h13 h, fun _ => ⟨⟨0, _, rfl, Nat.zero_le _, hDb4, hI0⟩, fun q5 g5 ⟨k, D, ek, hk, hD, hI⟩ => ?_⟩⟩
    have G5 : Agree 6 ρ q5 := g1.trans ((g2.trans ((g3.trans ((g4.trans (g5.mono (by omega))).mono (by omega))).mono (by omega))).mono (by omega))
    obtain ⟨pE, pS, pL, pH⟩ := hI.open
    have hopre : sopenS.pre [.pointer (slP (q5.i 9) (q5.i 10))] [q5.h 51] [] := sopen_pre hD (by rw [pL]; exact packB_bytes fun r hr => hby r (List.mem_of_mem_take hr)) (by rw [pH]; exact fun z hz => by cases hz)
    rw [G5.i 0 (by omega), G5.i 1 (by omega), G5.i 2 (by omega), G5.h 4 (by omega), v0, v1, v2, w4, ek]
    refine ⟨fun hlt => ?_, fun hge => ?_⟩
    · have hkr : k < rows.length := by omega
      have hrk : rows[k]? = some rows[k] := List.getElem?_eq_getElem hkr
      have hu : us[k]? = some us[k] := List.getElem?_eq_getElem (by omega)
      obtain ⟨hx0, hc⟩ := hcell k _ hu
      have hRr := hrd k _ _ hu hrk
      obtain ⟨hsl, hln, _, _⟩ := RdW.parts hRr
      have hck : R.cell x.toNat (y + (k : Int)).toNat = some us[k] := by rw [show (y + (k : Int)).toNat = y.toNat + k by omega]; exact hc
      rw [hck, hln]
      refine ⟨hx0, hy, by omega, by obtain ⟨_, _, _, e⟩ := hsl; rw [e]; rfl, by omega, fun _ => yes_out (bev_tt _), fun hle => ⟨hopre, fun q6 g6 ⟨F6, hp6, hF6, _⟩ => ?_⟩⟩
      have hr100 : rows[k].length ≤ 100 := by omega
      obtain ⟨pv6, hD6, hv6, hs6, _⟩ := sopen_post hD hp6
      simp only [Value.tuple.injEq, Array.mk.injEq, List.cons.injEq, Value.int.injEq, true_and, and_true] at hv6
      obtain ⟨rfl, h62⟩ := hv6
      rw [pE] at h62
      have hs6 := hs6 pE
      rw [← hF6 trivial] at hs6
      refine ⟨fun _ q7 g7 p63 => ?_, fun h => absurd h62 h⟩
      have G7 : Agree 6 ρ q7 := G5.trans ((g6.trans (g7.mono (by omega))).mono (by omega))
      have G57 : Agree 60 q5 q7 := g6.trans (g7.mono (by omega))
      have ek7 : q7.i 50 = k := by rw [G57.i 50 (by omega), ek]
      rw [G7.h 4 (by omega), G7.h 5 (by omega), G7.i 0 (by omega), G7.i 1 (by omega), ek7, v0, v1, w4, w5, hck, sl_parts hsl]
      have hrows : RowsB (Hl.one (q7.i 63).toNat (.cells #[us[k]] 30 (0, 0))) R (.slice (slP (q7.i 63) 0) (Int.toNat 1) (Int.toNat 1)) [rows[k]] := by
        refine ⟨[us[k]], q7.i 63, 0, 1, rfl, Int.le_refl _, rfl, fun j u hj => ⟨p63, ?_⟩, fun j u r hj hr => ?_⟩
        · rw [Hl.one_cell]
          match j with
          | 0 => exact hj
        · match j with
          | 0 =>
            have hj : us[k] = u := by simpa using hj
            have hr : rows[k] = r := by simpa using hr
            subst hj hr
            exact hRr
      have hs7 : StoreAt (q7.h 61) (.pointer (slP (q7.i 60) (q7.i 61))) (.pointer (slP (q5.i 9) (q5.i 10))) (sOpen D) := by
        rw [g7.h 61 (by omega), g7.i 60 (by omega), g7.i 61 (by omega)]; exact hs6
      have hD7 : DiskAt (q7.h 60) (.pointer (slP (q5.i 9) (q5.i 10))) D := by rw [g7.h 60 (by omega)]; exact hD6
      have hroom := hI.room (by omega)
      obtain ⟨se, sI⟩ := hI.step hrk hr100 (by omega)
      refine ⟨⟨_, _, _, _, _, _, _, g, _, _, _, [rows[k]], rfl, rfl, rfl, hs7, hD7, hrows, hG, by simp, (fun r hr => by rw [List.mem_singleton] at hr; subst hr; omega), by rw [pS]; show (packB _).length ≤ _; omega, by rw [pS]; show (0 : Int) ≤ (k : Int); omega, by rw [pS]; show (rows.take k).length ≤ _; rw [List.length_take]; omega⟩, fun q8 g8 ⟨F8, hp8, _⟩ => ?_⟩
      obtain ⟨hD8, hs8, hv8⟩ := add_post (H' := q8.h 64) (HD' := q8.h 65) hs7 hD7 hrows hp8
      rw [se] at hv8
      have h64 : q8.i 64 = 0 := by simpa using hv8
      have G58 : Agree 60 q5 q8 := G57.trans (g8.mono (by omega))
      have w60 : IntKind.i64.wrap (q8.i 50 + 1) = (k : Int) + 1 := by rw [G58.i 50 (by omega), ek]; exact wrap_i64 (by omega) (by omega)
      refine ⟨fun h => absurd h64 h, fun _ => ⟨⟨k + 1, _, ?_, by omega, ?_, sI⟩, ?_⟩⟩
      · show IntKind.i64.wrap (q8.i 50 + 1) = _
        rw [w60]; rfl
      · show DiskAt (q8.h 65) (.pointer (slP (q8.i 9) (q8.i 10))) _
        rw [G58.i 9 (by omega), G58.i 10 (by omega)]; exact hD8
      · show ((rows.length : Int) - IntKind.i64.wrap (q8.i 50 + 1)).toNat < _
        rw [w60]; omega
    · have hke : k = rows.length := by omega
      subst hke
      have hsh := hI.short
      rw [List.take_length] at pS hsh
      obtain ⟨ae, ar, am, ab⟩ := GI.all hsh hlen
      have hpl := packB_len hsh
      have hpl2 : 101 * rows.length ≤ 101 * 20 := Nat.mul_le_mul_left _ hlen
      refine ⟨hopre, fun q6 g6 ⟨F6, hp6, hF6, _⟩ => ?_⟩
      obtain ⟨pv6, hD6, hv6, hs6, _⟩ := sopen_post hD hp6
      simp only [Value.tuple.injEq, Array.mk.injEq, List.cons.injEq, Value.int.injEq, true_and, and_true] at hv6
      obtain ⟨rfl, h62⟩ := hv6
      rw [pE] at h62
      have hs6 := hs6 pE
      rw [← hF6 trivial] at hs6
      have G6 : Agree 6 ρ q6 := G5.trans (g6.mono (by omega))
      have G46 : Agree 14 q4 q6 := g5.trans (g6.mono (by omega))
      rw [G6.h 4 (by omega), G6.h 5 (by omega), G6.i 0 (by omega), G6.i 1 (by omega), G6.i 2 (by omega), G6.i 3 (by omega), v0, v1, v2, v3, w4, w5, Int.toNat_natCast, Int.toNat_natCast]
      have hsx : StoreAt (q6.h 12) (.pointer (slP (q6.i 11) (q6.i 12))) (.pointer (slP (q3.i 7) (q3.i 8))) (sOpen (newD 200)) := by
        rw [G46.h 12 (by omega), G46.i 11 (by omega), G46.i 12 (by omega)]; exact hs4
      have hDx : DiskAt (q6.h 11) (.pointer (slP (q3.i 7) (q3.i 8))) (newD 200) := by rw [G46.h 11 (by omega)]; exact hD4
      refine ⟨fun _ => ⟨⟨_, _, _, _, _, _, _, g, _, _, _, rows, rfl, rfl, rfl, hsx, hDx, hB, hG, by omega, (fun r hr => by have := hsh r hr; omega), by rw [oS]; show (packB (rows.take 0)).length ≤ _; rw [List.take_zero]; decide, by rw [oS]; exact Int.le_refl _, by rw [oS]; show (rows.take 0).length ≤ _; rw [List.take_zero]; decide⟩, fun q7 g7 ⟨F7, hp7, _⟩ => ?_⟩, fun h => absurd h62 h⟩
      obtain ⟨hD7, hs7, hv7⟩ := add_post (H' := q7.h 63) (HD' := q7.h 64) hsx hDx hB hp7
      rw [ae] at hv7
      have h63 : q7.i 63 = 0 := by simpa using hv7
      have X : ∀ q : Env, Agree 66 q7 q → StoreR (q.h 63) (.pointer (slP (q.i 11) (q.i 12))) (.pointer (slP (q3.i 7) (q3.i 8))) (addR (newD 200) (sOpen (newD 200)) rows).S ∧ StoreR (q.h 61) (.pointer (slP (q.i 60) (q.i 61))) (.pointer (slP (q5.i 9) (q5.i 10))) (sOpen D) ∧ q.h 4 = R ∧ q.i 0 = x ∧ q.i 1 = y ∧ q.i 2 = us.length ∧ q.i 3 = c := fun q hg => by
        have G7 : Agree 63 q6 q := g7.trans (hg.mono (by omega))
        have Gq : Agree 6 ρ q := G6.trans (G7.mono (by omega))
        refine ⟨?_, ?_, by rw [Gq.h 4 (by omega), w4], by rw [Gq.i 0 (by omega), v0], by rw [Gq.i 1 (by omega), v1], by rw [Gq.i 2 (by omega), v2], by rw [Gq.i 3 (by omega), v3]⟩
        · rw [hg.h 63 (by omega), G7.i 11 (by omega), G7.i 12 (by omega)]; exact hs7.rd
        · rw [G7.h 61 (by omega), G7.i 60 (by omega), G7.i 61 (by omega)]; exact hs6.rd
      have pr : (sOpen D).recs = rows := by rw [pS]
      have pb : (sOpen D).bA = packB rows := by rw [pS]
      have pm : (sOpen D).LA.most = 6272 := by rw [pS]; rfl
      have hrl : ∀ r ∈ rows, r.length ≤ 1000000 := fun r hr => by have := hsh r hr; omega
      refine ⟨fun _ => ⟨⟨_, _, _, _, rfl, rfl, (X q7 (Agree.refl _ _)).1, by rw [ar]; omega, by rw [ar]; exact hrl⟩, fun q8 g8 ⟨F8, hp8, hF8, hn8⟩ => ?_⟩, fun h => absurd h63 h⟩
      have hR8 := srec_post (X q7 (Agree.refl _ _)).1 hp8
      rw [← hF8 trivial, ar] at hR8
      refine ⟨⟨_, _, _, _, rfl, rfl, (X q8 g8).2.1, by rw [pr]; omega, by rw [pr]; exact hrl⟩, fun q9 g9 ⟨F9, hp9, hF9, hn9⟩ => ?_⟩
      have hR9 := srec_post (X q8 g8).2.1 hp9
      rw [← hF9 trivial, pr] at hR9
      have hR89 : RowsR (q9.h 66) (.slice (slP (q9.i 66) (q9.i 67)) (q9.i 68).toNat (q9.i 69).toNat) rows := by
        rw [g9.h 66 (by omega), g9.i 66 (by omega), g9.i 67 (by omega), g9.i 68 (by omega), g9.i 69 (by omega)]; exact hR8
      have G79 : Agree 66 q7 q9 := g8.trans (g9.mono (by omega))
      refine ⟨⟨_, _, _, _, _, _, rfl, rfl, hR89.b, hR9.b, by omega⟩, fun q10 g10 ⟨F10, hp10, _⟩ => ?_⟩
      obtain ⟨z10, hz10, hz10'⟩ := rsame_post hR89.b hR9.b hp10
      have h74 : q10.b 74 = true := by
        have h : Value.bool (bev q10 (.bvar 74)) = .bool z10 := hz10
        rw [hz10' rfl, bev_bvar] at h
        simpa using h
      have G710 : Agree 66 q7 q10 := G79.trans (g10.mono (by omega))
      refine ⟨fun _ => ⟨⟨_, _, _, _, rfl, rfl, (X q10 G710).1, by rw [ar]; omega, by rw [ar]; exact hrl⟩, fun q11 g11 ⟨F11, hp11, hF11, hn11⟩ => ?_⟩, fun h => absurd h74 h⟩
      have hR11 := srec_post (X q10 G710).1 hp11
      rw [← hF11 trivial, ar] at hR11
      have G711 : Agree 66 q7 q11 := G710.trans (g11.mono (by omega))
      obtain ⟨_, _, k4, k0, k1, k2, k3⟩ := X q11 G711
      rw [k4, k0, k1, k2, k3, Int.toNat_natCast, Int.toNat_natCast]
      refine ⟨⟨_, _, _, _, _, _, rfl, rfl, hR11.b, hB, by omega⟩, fun q12 g12 ⟨F12, hp12, _⟩ => ?_⟩
      obtain ⟨z12, hz12, hz12'⟩ := rsame_post hR11.b hB hp12
      have h79 : q12.b 79 = true := by
        have h : Value.bool (bev q12 (.bvar 79)) = .bool z12 := hz12
        rw [hz12' rfl, bev_bvar] at h
        simpa using h
      have G712 : Agree 66 q7 q12 := G711.trans (g12.mono (by omega))
      refine ⟨fun _ => ⟨⟨_, _, _, _, rfl, rfl, (X q12 G712).1, by rw [ab]; omega⟩, fun q13 g13 ⟨F13, hp13, _⟩ => ?_⟩, fun h => absurd h79 h⟩
      have h80 := sroom_post (X q12 G712).1 hp13
      have G713 : Agree 66 q7 q13 := G712.trans (g13.mono (by omega))
      refine ⟨⟨_, _, _, _, rfl, rfl, (X q13 G713).2.1, by rw [pb]; omega⟩, fun q14 g14 ⟨F14, hp14, _⟩ => yes_out ?_⟩
      have h81 := sroom_post (X q13 G713).2.1 hp14
      rw [am, ab] at h80
      rw [pm, pb] at h81
      have a : q13.i 80 = 6272 - (packB rows).length := by simpa using h80
      have b : q14.i 81 = 6272 - (packB rows).length := by simpa using h81
      rw [bev_eq, iev_var, iev_var, g14.i 80 (by omega), a, b]; simp
end Go.Proofs.YtomdimlnggpgbaaDoor
