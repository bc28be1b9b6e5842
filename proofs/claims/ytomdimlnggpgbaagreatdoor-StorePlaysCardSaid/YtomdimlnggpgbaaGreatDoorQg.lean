/- Layer 9: law09.StorePlays, as a contract. Condition: bytes below 256. -/
import Derived.Test.YtomdimlnggpgbaaGreatDoorRows
import Derived.ProofKit
import Derived.LaidMore
import Derived.LaidHandle
import Derived.OpenShut
import Derived.Stop.Joined
import Derived.Stop.LaidErr
import Derived.Deep.Slices
import Derived.ChangeSame
import Derived.SevenTiedAt
import Derived.Test.YtomdimlnggpgbaaGreatDoorQf
set_option linter.unusedSimpArgs false
set_option linter.unusedVariables false
set_option linter.constructorNameAsVariable false
namespace Go.Proofs.YtomdimlnggpgbaaGreatDoor
open Go Go.Sx Go.Pk
open Go.Proofs.YtomdimlnggpgbaaGreatDoor.D hiding envI noLoops numS
theorem crash_same {D : DM} (h : Sure D) (hl : D.loose = []) (fate : List Int) : crashD D fate = D := by
  have e : crashD D fate = ⟨D.n, D.now, [], -1, false⟩ := by unfold crashD; rw [hl]; rfl
  rw [e]
  obtain ⟨n, now, loose, fuse, gone⟩ := D
  have h1 := h.fuse
  have h2 := h.gone
  simp only at h1 h2 hl
  rw [h1, h2, hl]
theorem SP.addLong {D : DM} {S : SM} {n : Nat} {g : Int} {K : Nat} (h : SP D S n g K) {rows : List (List Int)} (hk : ¬ packOk rows) : addR D S rows = ⟨3, D, S⟩ := by
  unfold addR
  rw [if_neg (by rw [h.ov]; simp), if_pos hk]
theorem SP.mostA {D : DM} {S : SM} {n : Nat} {g : Int} {K : Nat} (h : SP D S n g K) : S.LA.most = 64 * ((n : Int) - 2) ∧ S.LB.most = 64 * ((n : Int) - 2) ∧ (S.bA.length : Int) ≤ 64 * ((n : Int) - 2) ∧ (S.bB.length : Int) ≤ 64 * ((n : Int) - 2) ∧ n ≤ 8192 := by
  have h1 := h.hA.len
  have h2 := h.hB.len
  have h3 := h.hA.sure.ok.n
  have h4 := h.hn
  exact ⟨by rw [h.eA], by rw [h.eB], h1, h2, by omega⟩
theorem SP.addFull {D : DM} {S : SM} {n : Nat} {g : Int} {K : Nat} (h : SP D S n g K) {rows : List (List Int)} (hk : packOk rows) (hf : 64 * ((n : Int) - 2) - S.bA.length < (packB rows).length) : addR D S rows = ⟨4, D, S⟩ := by
  have hm := h.mostA
  have hne : rows ≠ [] := fun e => by
    rw [e] at hf
    have : (packB ([] : List (List Int))).length = 0 := rfl
    omega
  unfold addR
  rw [if_neg (by rw [h.ov]; simp), if_neg (fun h' => h' hk), if_neg hne, if_pos (by rw [hm.1]; exact hf)]
theorem SP.compLong {D : DM} {S : SM} {n : Nat} {g : Int} {K : Nat} (h : SP D S n g K) {rows : List (List Int)} (hk : ¬ packOk rows) : compR D S rows = ⟨3, D, S⟩ := by
  unfold compR
  rw [if_neg (by rw [h.ov]; simp), if_pos hk]
theorem SP.compFull {D : DM} {S : SM} {n : Nat} {g : Int} {K : Nat} (h : SP D S n g K) {rows : List (List Int)} (hk : packOk rows) (hf : 64 * ((n : Int) - 2) < (packB rows).length) : compR D S rows = ⟨4, D, S⟩ := by
  unfold compR
  rw [if_neg (by rw [h.ov]; simp), if_neg (fun h' => h' hk), if_pos (by rw [h.mostA.2.1]; exact hf)]
theorem cmp_post {p u dp v : Value} {H HD H' HD' R RA RG F : Hl} {S : SM} {D : DM} {rows : List (List Int)} (h1 : StoreAt H p dp S) (h2 : DiskAt HD dp D) (h3 : RowsB R RA u rows) (hp : cmpS.post [p, u] [H, HD] [R, RA, RG] v [H', HD'] F) :
    DiskAt HD' dp (compR D S rows).D ∧ StoreAt H' p dp (compR D S rows).S ∧ v = .int .i64 (compR D S rows).e := by
  obtain ⟨p', u', Hx, HDx, Rx, RAx, RGx, dp', S', D', rows', H2, HD2, e1, e2, e3, k1, k2, k3, e4, k4, k5, hv⟩ := hp
  simp only [List.cons.injEq, and_true] at e1 e2 e3 e4
  obtain ⟨a1, a2⟩ := e1
  obtain ⟨a3, a4⟩ := e2
  obtain ⟨a5, a6, a7⟩ := e3
  obtain ⟨a8, a9⟩ := e4
  subst a1 a2 a3 a4 a5 a6 a7 a8 a9
  obtain ⟨rfl, rfl⟩ := h1.rd.uniq k1.rd
  obtain rfl := h2.uniq k2
  obtain rfl := h3.uniq k3
  exact ⟨k4, k5, hv⟩
def errOf (k : Int) (ok : Bool) (room size most : Int) : Int := if ok = true then (if (k.tmod 3 = 0 ∧ room < size) ∨ (k.tmod 3 = 1 ∧ most < size) then 4 else 0) else 3
def playsS : Sx.Spec := yes 3 (fun xs Rs => ∃ n v R RG g ops, xs = [.int .u8 n, v] ∧ Rs = [R, RG] ∧ (0 ≤ n ∧ n < 256) ∧ Ops9 R v ops ∧ (∀ o ∈ ops, (∀ r ∈ o.rows, bytes256 r) ∧ 0 ≤ o.k ∧ o.k < 256) ∧ Gl RG g) [1, 2000000]
noncomputable def plΓ : List Sx.Spec := [newS, sopenS, addS, cmpS, srecS, sroomS, sgenS, soverS, crashS, awakeS, few9S, sizesS, bothS, xsameS]
theorem plΓ_ok : ∀ t ∈ plΓ, t.OK Tryz.prog := fun t ht => by
  simp only [plΓ, List.mem_cons, List.mem_nil_iff, or_false] at ht
  rcases ht with rfl | rfl | rfl | rfl | rfl | rfl | rfl | rfl | rfl | rfl | rfl | rfl | rfl | rfl
  · exact newS_ok
  · exact sopenS_ok
  · exact addS_ok
  · exact cmpS_ok
  · exact srecS_ok
  · exact sroomS_ok
  · exact sgenS_ok
  · exact soverS_ok
  · exact crashS_ok
  · exact awakeS_ok
  · exact few9S_ok
  · exact sizesS_ok
  · exact bothS_ok
  · exact xsameS_ok
def plNd : Nd := .and (.pre (.call 9 7 [] [] [.ro 6 [.lit 0, .lit 1, .lit 2] false])) (.ext (.call 9 7 [] [] [.ro 6 [.lit 0, .lit 1, .lit 2] false]) (.and (.imp (.bvar 7) (.and (.pre (.call 10 8 [.sv (.one (.sl (.var 1) (.var 2) (.var 3) (.var 4))), .sv (.one (.int .i64 (.lit 30)))] [] [.ro 5 [.var 1] true])) (.ext (.call 10 8 [.sv (.one (.sl (.var 1) (.var 2) (.var 3) (.var 4))), .sv (.one (.int .i64 (.lit 30)))] [] [.ro 5 [.var 1] true]) (.and (.imp (.not (.bvar 8)) (.and (.pre (.call 9 9 [] [] [.ro 6 [.lit 0, .lit 1, .lit 2] false])) (.ext (.call 9 9 [] [] [.ro 6 [.lit 0, .lit 1, .lit 2] false]) (.post [.ro 5 [.var 1] true, .ro 6 [.lit 0, .lit 1, .lit 2] false] (.sv (.one (.bool (.bvar 9)))))))) (.imp (.bvar 8) (.and (.pre (.call 0 9 [.sv (.one (.int .i64 (.wrap .i64 (.add (.lit 6) (.wrap .i64 (.rem (.var 0) (.lit 125)))))))] [] [])) (.ext (.call 0 9 [.sv (.one (.int .i64 (.wrap .i64 (.add (.lit 6) (.wrap .i64 (.rem (.var 0) (.lit 125)))))))] [] []) (.and (.pre (.call 1 11 [.sv (.one (.hptr (.var 9) (.var 10)))] [.hp 9 [] [.var 9] []] [])) (.ext (.call 1 11 [.sv (.one (.hptr (.var 9) (.var 10)))] [.hp 9 [] [.var 9] []] []) (.and (.imp (.not (.eq (.var 13) (.lit 0))) (.post [.ro 5 [.var 1] true, .ro 6 [.lit 0, .lit 1, .lit 2] false, .hp 11 [9] [.var 9] [], .hp 12 [] [.var 11] [.var 9]] (.sv (.one (.bool .ff))))) (.imp (.eq (.var 13) (.lit 0)) (.and (.inv 0 [⟨70, 0, .int .i64 (.var 11)⟩, ⟨71, 0, .int .i64 (.var 12)⟩, ⟨72, 0, .int .i64 (.lit (-1))⟩, ⟨73, 0, .int .i64 (.lit 0)⟩, ⟨74, 0, .int .i64 (.lit 0)⟩, ⟨75, 0, .int .i64 (.lit 0)⟩, ⟨76, 0, .int .i64 (.wrap .i64 (.mul (.lit 64) (.wrap .i64 (.sub (.wrap .i64 (.quo (.wrap .i64 (.add (.lit 6) (.wrap .i64 (.rem (.var 0) (.lit 125))))) (.lit 2))) (.lit 2)))))⟩, ⟨77, 0, .int .i64 (.lit 0)⟩, ⟨78, 0, .int .i64 (.lit 0)⟩] [(80, some 11), (81, some 12), (82, none)]) (.havoc 0 0 14 (.and (.e (.le (.lit 0) (.var 3))) (.and (.imp (.lt (.var 78) (.var 3)) (.and (.e (.le (.lit 0) (.var 1))) (.and (.e (.le (.lit 0) (.var 2))) (.and (.e (.le (.lit 0) (.var 78))) (.and (.e (.his 5 (.var 1) (.add (.var 2) (.mul (.var 78) (.lit 3))) 0 (.int .u8))) (.and (.e (.his 5 (.var 1) (.add (.var 2) (.mul (.var 78) (.lit 3))) 1 .slice)) (.and (.e (.his 5 (.var 1) (.add (.var 2) (.mul (.var 78) (.lit 3))) 2 (.int .i64))) (.ext (.alloc 100) (.and (.pre (.call 11 101 [.sv (.one (.sl (.hP 5 (.var 1) (.add (.var 2) (.mul (.var 78) (.lit 3))) 1 0) (.hP 5 (.var 1) (.add (.var 2) (.mul (.var 78) (.lit 3))) 1 1) (.hP 5 (.var 1) (.add (.var 2) (.mul (.var 78) (.lit 3))) 1 2) (.hP 5 (.var 1) (.add (.var 2) (.mul (.var 78) (.lit 3))) 1 3)))] [] [.ro 5 [.var 1] true, .ro 5 [.var 1] true])) (.ext (.call 11 101 [.sv (.one (.sl (.hP 5 (.var 1) (.add (.var 2) (.mul (.var 78) (.lit 3))) 1 0) (.hP 5 (.var 1) (.add (.var 2) (.mul (.var 78) (.lit 3))) 1 1) (.hP 5 (.var 1) (.add (.var 2) (.mul (.var 78) (.lit 3))) 1 2) (.hP 5 (.var 1) (.add (.var 2) (.mul (.var 78) (.lit 3))) 1 3)))] [] [.ro 5 [.var 1] true, .ro 5 [.var 1] true]) (.and (.and (.imp (.not (.bvar 102)) (.inv 2 [⟨190, 0, .int .i64 (.lit 3)⟩] [])) (.imp (.bvar 102) (.and (.imp (.eq (.rem (.hI 5 (.var 1) (.add (.var 2) (.mul (.var 78) (.lit 3))) 0) (.lit 3)) (.lit 0)) (.and (.imp (.not (.lt (.var 76) (.var 101))) (.inv 2 [⟨190, 0, .int .i64 (.lit 0)⟩] [])) (.imp (.lt (.var 76) (.var 101)) (.inv 2 [⟨190, 0, .int .i64 (.lit 4)⟩] [])))) (.imp (.not (.eq (.rem (.hI 5 (.var 1) (.add (.var 2) (.mul (.var 78) (.lit 3))) 0) (.lit 3)) (.lit 0))) (.and (.imp (.eq (.rem (.hI 5 (.var 1) (.add (.var 2) (.mul (.var 78) (.lit 3))) 0) (.lit 3)) (.lit 1)) (.and (.imp (.lt (.wrap .i64 (.mul (.lit 64) (.wrap .i64 (.sub (.wrap .i64 (.quo (.wrap .i64 (.add (.lit 6) (.wrap .i64 (.rem (.var 0) (.lit 125))))) (.lit 2))) (.lit 2))))) (.var 101)) (.inv 2 [⟨190, 0, .int .i64 (.lit 4)⟩] [])) (.imp (.not (.lt (.wrap .i64 (.mul (.lit 64) (.wrap .i64 (.sub (.wrap .i64 (.quo (.wrap .i64 (.add (.lit 6) (.wrap .i64 (.rem (.var 0) (.lit 125))))) (.lit 2))) (.lit 2))))) (.var 101))) (.inv 2 [⟨190, 0, .int .i64 (.lit 0)⟩] [])))) (.imp (.not (.eq (.rem (.hI 5 (.var 1) (.add (.var 2) (.mul (.var 78) (.lit 3))) 0) (.lit 3)) (.lit 1))) (.inv 2 [⟨190, 0, .int .i64 (.lit 0)⟩] []))))))) (.havoc 1 2 103 (.and (.and (.imp (.eq (.rem (.hI 5 (.var 1) (.add (.var 2) (.mul (.var 78) (.lit 3))) 0) (.lit 3)) (.lit 0)) (.and (.pre (.call 2 195 [.sv (.one (.hptr (.var 70) (.var 71))), .sv (.one (.sl (.hP 5 (.var 1) (.add (.var 2) (.mul (.var 78) (.lit 3))) 1 0) (.hP 5 (.var 1) (.add (.var 2) (.mul (.var 78) (.lit 3))) 1 1) (.hP 5 (.var 1) (.add (.var 2) (.mul (.var 78) (.lit 3))) 1 2) (.hP 5 (.var 1) (.add (.var 2) (.mul (.var 78) (.lit 3))) 1 3)))] [.hp 81 [] [.var 70] [.var 9], .hp 80 [] [.var 9] []] [.ro 5 [.var 1] true, .ro 5 [.var 1] true, .ro 6 [.lit 0, .lit 1, .lit 2] false])) (.ext (.call 2 195 [.sv (.one (.hptr (.var 70) (.var 71))), .sv (.one (.sl (.hP 5 (.var 1) (.add (.var 2) (.mul (.var 78) (.lit 3))) 1 0) (.hP 5 (.var 1) (.add (.var 2) (.mul (.var 78) (.lit 3))) 1 1) (.hP 5 (.var 1) (.add (.var 2) (.mul (.var 78) (.lit 3))) 1 2) (.hP 5 (.var 1) (.add (.var 2) (.mul (.var 78) (.lit 3))) 1 3)))] [.hp 81 [] [.var 70] [.var 9], .hp 80 [] [.var 9] []] [.ro 5 [.var 1] true, .ro 5 [.var 1] true, .ro 6 [.lit 0, .lit 1, .lit 2] false]) (.and (.imp (.eq (.var 190) (.lit 0)) (.and (.pre (.call 12 198 [.sv (.one (.sl (.var 72) (.var 73) (.var 74) (.var 75))), .sv (.one (.sl (.hP 5 (.var 1) (.add (.var 2) (.mul (.var 78) (.lit 3))) 1 0) (.hP 5 (.var 1) (.add (.var 2) (.mul (.var 78) (.lit 3))) 1 1) (.hP 5 (.var 1) (.add (.var 2) (.mul (.var 78) (.lit 3))) 1 2) (.hP 5 (.var 1) (.add (.var 2) (.mul (.var 78) (.lit 3))) 1 3)))] [] [.hp 82 [] [.var 72] [], .ro 5 [.var 1] true, .ro 5 [.var 1] true])) (.ext (.call 12 198 [.sv (.one (.sl (.var 72) (.var 73) (.var 74) (.var 75))), .sv (.one (.sl (.hP 5 (.var 1) (.add (.var 2) (.mul (.var 78) (.lit 3))) 1 0) (.hP 5 (.var 1) (.add (.var 2) (.mul (.var 78) (.lit 3))) 1 1) (.hP 5 (.var 1) (.add (.var 2) (.mul (.var 78) (.lit 3))) 1 2) (.hP 5 (.var 1) (.add (.var 2) (.mul (.var 78) (.lit 3))) 1 3)))] [] [.hp 82 [] [.var 72] [], .ro 5 [.var 1] true, .ro 5 [.var 1] true]) (.inv 1 [⟨210, 0, .int .i64 (.var 70)⟩, ⟨211, 0, .int .i64 (.var 71)⟩, ⟨212, 0, .int .i64 (.var 198)⟩, ⟨213, 0, .int .i64 (.var 199)⟩, ⟨214, 0, .int .i64 (.var 200)⟩, ⟨215, 0, .int .i64 (.var 201)⟩, ⟨216, 0, .int .i64 (.wrap .i64 (.sub (.var 76) (.var 101)))⟩, ⟨217, 0, .int .i64 (.var 77)⟩, ⟨218, 0, .int .i64 (.var 190)⟩, ⟨219, 0, .int .i64 (.var 195)⟩] [(220, some 196), (221, some 195), (222, some 198)])))) (.imp (.not (.eq (.var 190) (.lit 0))) (.inv 1 [⟨210, 0, .int .i64 (.var 70)⟩, ⟨211, 0, .int .i64 (.var 71)⟩, ⟨212, 0, .int .i64 (.var 72)⟩, ⟨213, 0, .int .i64 (.var 73)⟩, ⟨214, 0, .int .i64 (.var 74)⟩, ⟨215, 0, .int .i64 (.var 75)⟩, ⟨216, 0, .int .i64 (.var 76)⟩, ⟨217, 0, .int .i64 (.var 77)⟩, ⟨218, 0, .int .i64 (.var 190)⟩, ⟨219, 0, .int .i64 (.var 195)⟩] [(220, some 196), (221, some 195), (222, some 82)])))))) (.imp (.not (.eq (.rem (.hI 5 (.var 1) (.add (.var 2) (.mul (.var 78) (.lit 3))) 0) (.lit 3)) (.lit 0))) (.and (.imp (.eq (.rem (.hI 5 (.var 1) (.add (.var 2) (.mul (.var 78) (.lit 3))) 0) (.lit 3)) (.lit 1)) (.and (.pre (.call 3 195 [.sv (.one (.hptr (.var 70) (.var 71))), .sv (.one (.sl (.hP 5 (.var 1) (.add (.var 2) (.mul (.var 78) (.lit 3))) 1 0) (.hP 5 (.var 1) (.add (.var 2) (.mul (.var 78) (.lit 3))) 1 1) (.hP 5 (.var 1) (.add (.var 2) (.mul (.var 78) (.lit 3))) 1 2) (.hP 5 (.var 1) (.add (.var 2) (.mul (.var 78) (.lit 3))) 1 3)))] [.hp 81 [] [.var 70] [.var 9], .hp 80 [] [.var 9] []] [.ro 5 [.var 1] true, .ro 5 [.var 1] true, .ro 6 [.lit 0, .lit 1, .lit 2] false])) (.ext (.call 3 195 [.sv (.one (.hptr (.var 70) (.var 71))), .sv (.one (.sl (.hP 5 (.var 1) (.add (.var 2) (.mul (.var 78) (.lit 3))) 1 0) (.hP 5 (.var 1) (.add (.var 2) (.mul (.var 78) (.lit 3))) 1 1) (.hP 5 (.var 1) (.add (.var 2) (.mul (.var 78) (.lit 3))) 1 2) (.hP 5 (.var 1) (.add (.var 2) (.mul (.var 78) (.lit 3))) 1 3)))] [.hp 81 [] [.var 70] [.var 9], .hp 80 [] [.var 9] []] [.ro 5 [.var 1] true, .ro 5 [.var 1] true, .ro 6 [.lit 0, .lit 1, .lit 2] false]) (.and (.imp (.eq (.var 190) (.lit 0)) (.inv 1 [⟨210, 0, .int .i64 (.var 70)⟩, ⟨211, 0, .int .i64 (.var 71)⟩, ⟨212, 0, .int .i64 (.hP 5 (.var 1) (.add (.var 2) (.mul (.var 78) (.lit 3))) 1 0)⟩, ⟨213, 0, .int .i64 (.hP 5 (.var 1) (.add (.var 2) (.mul (.var 78) (.lit 3))) 1 1)⟩, ⟨214, 0, .int .i64 (.hP 5 (.var 1) (.add (.var 2) (.mul (.var 78) (.lit 3))) 1 2)⟩, ⟨215, 0, .int .i64 (.hP 5 (.var 1) (.add (.var 2) (.mul (.var 78) (.lit 3))) 1 3)⟩, ⟨216, 0, .int .i64 (.wrap .i64 (.sub (.wrap .i64 (.mul (.lit 64) (.wrap .i64 (.sub (.wrap .i64 (.quo (.wrap .i64 (.add (.lit 6) (.wrap .i64 (.rem (.var 0) (.lit 125))))) (.lit 2))) (.lit 2))))) (.var 101)))⟩, ⟨217, 0, .int .i64 (.wrap .u64 (.add (.var 77) (.lit 1)))⟩, ⟨218, 0, .int .i64 (.var 190)⟩, ⟨219, 0, .int .i64 (.var 195)⟩] [(220, some 196), (221, some 195), (222, some 82)])) (.imp (.not (.eq (.var 190) (.lit 0))) (.inv 1 [⟨210, 0, .int .i64 (.var 70)⟩, ⟨211, 0, .int .i64 (.var 71)⟩, ⟨212, 0, .int .i64 (.var 72)⟩, ⟨213, 0, .int .i64 (.var 73)⟩, ⟨214, 0, .int .i64 (.var 74)⟩, ⟨215, 0, .int .i64 (.var 75)⟩, ⟨216, 0, .int .i64 (.var 76)⟩, ⟨217, 0, .int .i64 (.var 77)⟩, ⟨218, 0, .int .i64 (.var 190)⟩, ⟨219, 0, .int .i64 (.var 195)⟩] [(220, some 196), (221, some 195), (222, some 82)])))))) (.imp (.not (.eq (.rem (.hI 5 (.var 1) (.add (.var 2) (.mul (.var 78) (.lit 3))) 0) (.lit 3)) (.lit 1))) (.and (.pre (.call 8 195 [.sv (.one (.hptr (.var 9) (.var 10))), .sv (.one (.sl (.lit (-1)) (.lit 0) (.lit 0) (.lit 0)))] [.hp 80 [] [.var 9] []] [.ro 5 [.var 1] true])) (.ext (.call 8 195 [.sv (.one (.hptr (.var 9) (.var 10))), .sv (.one (.sl (.lit (-1)) (.lit 0) (.lit 0) (.lit 0)))] [.hp 80 [] [.var 9] []] [.ro 5 [.var 1] true]) (.and (.pre (.call 1 197 [.sv (.one (.hptr (.var 9) (.var 10)))] [.hp 195 [80] [.var 9] []] [])) (.ext (.call 1 197 [.sv (.one (.hptr (.var 9) (.var 10)))] [.hp 195 [80] [.var 9] []] []) (.and (.imp (.not (.eq (.var 199) (.lit 0))) (.post [.ro 5 [.var 1] true, .ro 6 [.lit 0, .lit 1, .lit 2] false, .hp 197 [195, 80] [.var 9] [], .hp 81 [] [.var 70] [.var 9], .hp 82 [] [.var 72] [], .dead, .hp 198 [] [.var 197] [.var 9]] (.sv (.one (.bool .ff))))) (.imp (.eq (.var 199) (.lit 0)) (.inv 1 [⟨210, 0, .int .i64 (.var 197)⟩, ⟨211, 0, .int .i64 (.var 198)⟩, ⟨212, 0, .int .i64 (.var 72)⟩, ⟨213, 0, .int .i64 (.var 73)⟩, ⟨214, 0, .int .i64 (.var 74)⟩, ⟨215, 0, .int .i64 (.var 75)⟩, ⟨216, 0, .int .i64 (.var 76)⟩, ⟨217, 0, .int .i64 (.var 77)⟩, ⟨218, 0, .int .i64 (.lit 0)⟩, ⟨219, 0, .int .i64 (.lit 0)⟩] [(220, some 197), (221, some 198), (222, some 82)]))))))))))) (.havoc 1 1 195 (.and (.imp (.eq (.var 219) (.var 218)) (.and (.pre (.call 4 230 [.sv (.one (.hptr (.var 210) (.var 211)))] [] [.hp 221 [] [.var 210] [.var 9]])) (.ext (.call 4 230 [.sv (.one (.hptr (.var 210) (.var 211)))] [] [.hp 221 [] [.var 210] [.var 9]]) (.and (.pre (.call 13 234 [.sv (.one (.sl (.var 230) (.var 231) (.var 232) (.var 233))), .sv (.one (.sl (.var 212) (.var 213) (.var 214) (.var 215)))] [] [.hp 230 [] [.var 230] [], .hp 222 [] [.var 212] [], .ro 5 [.var 1] true])) (.ext (.call 13 234 [.sv (.one (.sl (.var 230) (.var 231) (.var 232) (.var 233))), .sv (.one (.sl (.var 212) (.var 213) (.var 214) (.var 215)))] [] [.hp 230 [] [.var 230] [], .hp 222 [] [.var 212] [], .ro 5 [.var 1] true]) (.and (.imp (.bvar 234) (.and (.pre (.call 5 235 [.sv (.one (.hptr (.var 210) (.var 211)))] [] [.hp 221 [] [.var 210] [.var 9]])) (.ext (.call 5 235 [.sv (.one (.hptr (.var 210) (.var 211)))] [] [.hp 221 [] [.var 210] [.var 9]]) (.and (.imp (.eq (.var 235) (.var 216)) (.and (.pre (.call 6 236 [.sv (.one (.hptr (.var 210) (.var 211)))] [] [.hp 221 [] [.var 210] [.var 9]])) (.ext (.call 6 236 [.sv (.one (.hptr (.var 210) (.var 211)))] [] [.hp 221 [] [.var 210] [.var 9]]) (.and (.imp (.eq (.var 236) (.var 217)) (.and (.pre (.call 7 237 [.sv (.one (.hptr (.var 210) (.var 211)))] [] [.hp 221 [] [.var 210] [.var 9]])) (.ext (.call 7 237 [.sv (.one (.hptr (.var 210) (.var 211)))] [] [.hp 221 [] [.var 210] [.var 9]]) (.and (.imp (.bvar 237) (.post [.ro 5 [.var 1] true, .ro 6 [.lit 0, .lit 1, .lit 2] false, .hp 220 [] [.var 9] [], .hp 221 [] [.var 210] [.var 9], .hp 222 [] [.var 212] [], .dead, .hp 230 [] [.var 230] []] (.sv (.one (.bool .ff))))) (.imp (.not (.bvar 237)) (.back 0 0 [⟨70, 0, .int .i64 (.var 210)⟩, ⟨71, 0, .int .i64 (.var 211)⟩, ⟨72, 0, .int .i64 (.var 212)⟩, ⟨73, 0, .int .i64 (.var 213)⟩, ⟨74, 0, .int .i64 (.var 214)⟩, ⟨75, 0, .int .i64 (.var 215)⟩, ⟨76, 0, .int .i64 (.var 216)⟩, ⟨77, 0, .int .i64 (.var 217)⟩, ⟨78, 0, .int .i64 (.wrap .i64 (.add (.var 78) (.lit 1)))⟩] [(80, some 220), (81, some 221), (82, some 222)])))))) (.imp (.not (.eq (.var 236) (.var 217))) (.post [.ro 5 [.var 1] true, .ro 6 [.lit 0, .lit 1, .lit 2] false, .hp 220 [] [.var 9] [], .hp 221 [] [.var 210] [.var 9], .hp 222 [] [.var 212] [], .dead, .hp 230 [] [.var 230] []] (.sv (.one (.bool .ff))))))))) (.imp (.not (.eq (.var 235) (.var 216))) (.post [.ro 5 [.var 1] true, .ro 6 [.lit 0, .lit 1, .lit 2] false, .hp 220 [] [.var 9] [], .hp 221 [] [.var 210] [.var 9], .hp 222 [] [.var 212] [], .dead, .hp 230 [] [.var 230] []] (.sv (.one (.bool .ff))))))))) (.imp (.not (.bvar 234)) (.post [.ro 5 [.var 1] true, .ro 6 [.lit 0, .lit 1, .lit 2] false, .hp 220 [] [.var 9] [], .hp 221 [] [.var 210] [.var 9], .hp 222 [] [.var 212] [], .dead, .hp 230 [] [.var 230] []] (.sv (.one (.bool .ff))))))))))) (.imp (.not (.eq (.var 219) (.var 218))) (.post [.ro 5 [.var 1] true, .ro 6 [.lit 0, .lit 1, .lit 2] false, .hp 220 [] [.var 9] [], .hp 221 [] [.var 210] [.var 9], .hp 222 [] [.var 212] [], .dead] (.sv (.one (.bool .ff)))))))))))))))))))) (.imp (.not (.lt (.var 78) (.var 3))) (.post [.ro 5 [.var 1] true, .ro 6 [.lit 0, .lit 1, .lit 2] false, .hp 80 [] [.var 9] [], .hp 81 [] [.var 70] [.var 9], .hp 82 [] [.var 72] []] (.sv (.one (.bool .tt)))))))))))))))))))) (.imp (.not (.bvar 7)) (.and (.pre (.call 9 8 [] [] [.ro 6 [.lit 0, .lit 1, .lit 2] false])) (.ext (.call 9 8 [] [] [.ro 6 [.lit 0, .lit 1, .lit 2] false]) (.post [.ro 5 [.var 1] true, .ro 6 [.lit 0, .lit 1, .lit 2] false] (.sv (.one (.bool (.bvar 8))))))))))
noncomputable def plW : Walk Tryz.prog plΓ playsS.fn where
  Λ := fun p => if cutAt p [3, 1, 1, 1, 1, 1, 1, 1, 1, 0, 1, 0, 0, 1, 0, 0, 1, 1, 1, 0] then some ⟨2, [(16, TI .i64 (.var 190))], [], 195⟩ else if cutAt p [3, 1, 1, 1, 1, 1, 1, 1, 1, 0, 1, 0, 0, 1, 0, 0, 1, 1, 1, 1, 1, 0] then some ⟨1, [(6, TP (.var 210) (.var 211)), (9, .sv (.one (.sl (.var 212) (.var 213) (.var 214) (.var 215)))), (10, TI .i64 (.var 216)), (11, TI .u64 (.var 217)), (16, TI .i64 (.var 218)), (17, TI .i64 (.var 219))], [(2, .hp 220 [] [.var 9] []), (3, .hp 221 [] [.var 210] [.var 9]), (4, .hp 222 [] [.var 212] [])], 230⟩ else if lp p then some ⟨0, [(6, TP (.var 70) (.var 71)), (9, .sv (.one (.sl (.var 72) (.var 73) (.var 74) (.var 75)))), (10, TI .i64 (.var 76)), (11, TI .u64 (.var 77)), (12, TI .i64 (.var 78))], [(2, .hp 80 [] [.var 9] []), (3, .hp 81 [] [.var 70] [.var 9]), (4, .hp 82 [] [.var 72] [])], 100⟩ else none
  args := [TI .u8 (.var 0), .sv (.one (.sl (.var 1) (.var 2) (.var 3) (.var 4)))]
  mem := [.ro 5 [.var 1] true, .ro 6 [.lit 0, .lit 1, .lit 2] false]
  nv := 7
  nd := plNd
  ok := by kernel_rfl
theorem plg0 : plΓ[0]? = some newS := rfl
theorem plg1 : plΓ[1]? = some sopenS := rfl
theorem plg2 : plΓ[2]? = some addS := rfl
theorem plg3 : plΓ[3]? = some cmpS := rfl
theorem plg4 : plΓ[4]? = some srecS := rfl
theorem plg5 : plΓ[5]? = some sroomS := rfl
theorem plg6 : plΓ[6]? = some sgenS := rfl
theorem plg7 : plΓ[7]? = some soverS := rfl
theorem plg8 : plΓ[8]? = some crashS := rfl
theorem plg9 : plΓ[9]? = some awakeS := rfl
theorem plg10 : plΓ[10]? = some few9S := rfl
theorem plg11 : plΓ[11]? = some sizesS := rfl
theorem plg12 : plΓ[12]? = some bothS := rfl
theorem plg13 : plΓ[13]? = some xsameS := rfl
theorem plr3 : cmpS.res = [.one (.int .i64)] := rfl
theorem plr6 : sgenS.res = [.one (.int .u64)] := rfl
theorem plr7 : soverS.res = [.one .bool] := rfl
theorem plr8 : crashS.res = [] := rfl
theorem plr9 : awakeS.res = [.one .bool] := rfl
theorem plr10 : few9S.res = [.one .bool] := rfl
theorem plr11 : sizesS.res = [.one (.int .i64), .one .bool] := rfl
theorem plr12 : bothS.res = [.one .sl] := rfl
theorem plr13 : xsameS.res = [.one .bool] := rfl
structure PlI (R : Hl) (dp : Value) (m : Nat) (HD HS HW : Hl) (ps w : Value) (room gen : Int) (K : Nat) (rows : List (List Int)) : Prop where
  ex : ∃ D S, DiskAt HD dp D ∧ StoreAt HS ps dp S ∧ S.recs = rows ∧ Nonempty (SP D S (m / 2) gen K) ∧ room = 64 * (((m / 2 : Nat) : Int) - 2) - S.bA.length
  want : ∃ Rw, (Rw = HW ∨ Rw = R) ∧ RowsB Rw R w rows
  len : rows.length ≤ 30 * K
set_option maxHeartbeats 4000000 in
theorem playsS_ok : playsS.OK Tryz.prog := by
  refine Spec.of_fn (Γ := plΓ) plΓ_ok ?_
  rintro xs Hs Rs hl1 hl2 ⟨n, v, R, RG, g, ops, rfl, rfl, hn, hO, hby, hG⟩
  have e0 : Hs = [] := List.length_eq_zero_iff.1 hl1
  subst e0
  obtain ⟨x, y, c, hv, hy, _⟩ := id hO.1
  rw [List.length_map] at hv
  subst hv
  have hat := (hO.at hy).2
  obtain ⟨m, hm⟩ : ∃ m : Nat, m = 6 + (n % 125).toNat := ⟨_, rfl⟩
  have hm6 : 6 ≤ m ∧ m ≤ 16384 := by omega
  refine ⟨plW, envI [n, x, y, ops.length, c] false [Hl.none, Hl.none, Hl.none, Hl.none, Hl.none, R, RG],
    fun j q => match j with
      | 0 => ∃ (i : Nat) (rows : List (List Int)), q.i 78 = i ∧ i ≤ ops.length ∧ PlI R (.pointer (slP (q.i 9) (q.i 10))) m (q.h 80) (q.h 81) (q.h 82) (.pointer (slP (q.i 70) (q.i 71))) (.slice (slP (q.i 72) (q.i 73)) (q.i 74).toNat (q.i 75).toNat) (q.i 76) (q.i 77) (2 * i) rows
      | 1 => ∃ rows : List (List Int), q.i 219 = q.i 218 ∧ PlI R (.pointer (slP (q.i 9) (q.i 10))) m (q.h 220) (q.h 221) (q.h 222) (.pointer (slP (q.i 210) (q.i 211))) (.slice (slP (q.i 212) (q.i 213)) (q.i 214).toNat (q.i 215).toNat) (q.i 216) (q.i 217) (2 * (q.i 78).toNat + 2) rows
      | _ => ∃ o, ops[(q.i 78).toNat]? = some o ∧ q.i 190 = errOf o.k (q.b 102) (q.i 76) (q.i 101) (64 * (((m / 2 : Nat) : Int) - 2)),
    fun j q => (ops.length - q.i 78).toNat, ?_, ent_ro (by intro r hr; simp [plW] at hr; rcases hr with rfl | rfl <;> exact ⟨_, _, _, rfl⟩) rfl, (fun _ h => nomatch h), ?_⟩
  · show [Value.int .u8 n, Value.slice (slP x y) ((ops.length : Int)).toNat ((c : Int)).toNat] = _
    simp only [Int.toNat_natCast]
  show Nd.holds _ _ _ plNd
  generalize hρ : envI [n, x, y, ops.length, c] false [Hl.none, Hl.none, Hl.none, Hl.none, Hl.none, R, RG] = ρ
  have V : ∀ q : Env, Agree 7 ρ q → q.i 0 = n ∧ q.i 1 = x ∧ q.i 2 = y ∧ q.i 3 = ops.length ∧ q.i 4 = c ∧ q.h 5 = R ∧ q.h 6 = RG := fun q hg => by
    rw [hg.i 0 (by omega), hg.i 1 (by omega), hg.i 2 (by omega), hg.i 3 (by omega), hg.i 4 (by omega), hg.h 5 (by omega), hg.h 6 (by omega), ← hρ]
    exact ⟨rfl, rfl, rfl, rfl, rfl, rfl, rfl⟩
  clear hρ
  unfold plNd
  simp only [Nd.holds, X.pre, X.rel, X.n, Src.ok, Src.len, Src.vals, true_and, and_true, if_true, Nat.mul_one, Nat.add_zero, Nat.reduceAdd, List.length_cons, List.length_nil, bT_tt, bT_ff, bT_bvar, bT_not, bT_and, bT_or, bT_ite, bT_lt, bT_le, bT_eq, bT_beq, bT_seq, bT_hB, bT_his, bT_hby, bT_hism, bT_hks, iev_lit, iev_var, iev_add, iev_sub, iev_mul, iev_wrap, iev_ite, iev_hI, iev_hP, iev_hmlen, sev_ite, sev_slit, sev_sof, sev_svar, TV.ev, SV.ev, CV.ev, List.map_cons, List.map_nil, Res.hl, cpTV, Cp.sv, Ck.cv, cpSVs, Cp.len, Ck.len, newHs_zero, newHs_one, roots_ne, plg0, plg1, plg2, plg3, plg4, plg5, plg6, plg7, plg8, plg9, plg10, plg11, plg12, plg13, lwr0, lwr1, lwr2, lwr3, lwr4, plr3, plr6, plr7, plr8, plr9, plr10, plr11, plr12, plr13, rsl, rptr]
  have aw : ∀ {q : Env}, Agree 7 ρ q → awakeS.pre [] [] [q.h 6] := fun hg => ⟨RG, g, rfl, by rw [(V _ hg).2.2.2.2.2.2], hG⟩
  have hsl : ∀ {q : Env}, Agree 7 ρ q → Value.slice (slP (q.i 1) (q.i 2)) (q.i 3).toNat (q.i 4).toNat = .slice (slP x y) ops.length c := fun hg => by
    obtain ⟨_, v1, v2, v3, v4, _, _⟩ := V _ hg
    rw [v1, v2, v3, v4, Int.toNat_natCast, Int.toNat_natCast]
  refine ⟨aw (Agree.refl _ _), fun q1 g1 ⟨_, p1, _, _⟩ => ⟨fun _ => ?_, fun h => absurd (Value.bool.inj p1) h⟩⟩
  rw [hsl g1, (V q1 g1).2.2.2.2.2.1]
  refine ⟨⟨_, 30, R, ops, rfl, rfl, hO, by omega⟩, fun q2 g2 ⟨_, p2, _, _⟩ => ?_⟩
  obtain ⟨z, hz, hz2⟩ := p2 _ 30 R ops rfl rfl hO
  have hz : q2.b 8 = z := Value.bool.inj hz
  have G2 : Agree 7 ρ q2 := g1.trans (g2.mono (by omega))
  refine ⟨fun _ => ⟨aw G2, fun q3 _ ⟨_, p3, _, _⟩ => yes_out (Value.bool.inj p3)⟩, fun h8 => ?_⟩
  rw [hz] at h8
  obtain ⟨hl30, hrows⟩ := hz2 h8
  have hl30 : ops.length ≤ 30 := by omega
  have htm : n.tmod 125 = n % 125 := Int.tmod_eq_emod_of_nonneg hn.1
  have em : IntKind.i64.wrap (6 + IntKind.i64.wrap (iev q2 ((E.var 0).rem (E.lit 125)))) = m := by
    rw [iev_rem, iev_var, iev_lit, (V q2 G2).1, htm, wrap_i64 (n := n % 125) (by omega) (by omega), wrap_i64 (by omega) (by omega)]; omega
  refine ⟨⟨_, rfl⟩, fun q3 g3 ⟨F3, p3, hF3, hn3⟩ => ?_⟩
  have G3 : Agree 7 ρ q3 := G2.trans (g3.mono (by omega))
  rw [em] at p3
  have hD3 := new_post p3
  rw [← hF3 trivial] at hD3
  obtain ⟨⟨hSP⟩, hr0, hE0⟩ := SP.new hm6
  obtain ⟨_, _, hb1, hb2⟩ := hSP.open
  refine ⟨sopen_pre hD3 hb1 hb2, fun q4 g4 ⟨F4, p4, hF4, hn4⟩ => ?_⟩
  have G4 : Agree 7 ρ q4 := G3.trans (g4.mono (by omega))
  obtain ⟨pv, hD4, hv4, hS4, _⟩ := sopen_post hD3 p4
  simp only [Value.tuple.injEq, Array.mk.injEq, List.cons.injEq, Value.int.injEq, true_and, and_true] at hv4
  obtain ⟨rfl, e13⟩ := hv4
  rw [hE0] at e13
  have hS4 := hS4 hE0
  rw [← hF4 (by simp [cpRoots, Cp.roots, Ck.root])] at hS4
  have hS4' : StoreAt (q4.h 12) (.pointer (slP (q4.i 11) (q4.i 12))) (.pointer (slP (q4.i 9) (q4.i 10))) (sOpen (newD m)) := by rw [g4.i 9 (by omega), g4.i 10 (by omega)]; exact hS4
  have emz : iev q4 (E.wrap .i64 ((E.lit 64).mul (E.wrap .i64 ((E.wrap .i64 ((E.wrap .i64 ((E.lit 6).add (E.wrap .i64 ((E.var 0).rem (E.lit 125))))).quo (E.lit 2))).sub (E.lit 2))))) = 64 * (((m / 2 : Nat) : Int) - 2) := by
    simp only [iev_wrap, iev_mul, iev_sub, iev_add, iev_rem, iev_quo, iev_var, iev_lit]
    rw [(V q4 G4).1, htm, wrap_i64 (n := n % 125) (by omega) (by omega), wrap_i64 (n := 6 + n % 125) (by omega) (by omega), Int.tdiv_eq_ediv_of_nonneg (by omega), wrap_i64 (n := (6 + n % 125) / 2) (by omega) (by omega), wrap_i64 (n := (6 + n % 125) / 2 - 2) (by omega) (by omega), wrap_i64 (by omega) (by omega)]
    omega
  refine ⟨fun h => absurd e13 h, fun _ => ⟨⟨0, [], rfl, Nat.zero_le _, ⟨⟨newD m, sOpen (newD m), ?_, hS4', hr0, ⟨hSP⟩, ?_⟩, ⟨R, Or.inr rfl, [], -1, 0, 0, rfl, Int.le_refl 0, rfl, fun j u h => by simp at h, fun j u r h => by simp at h⟩, Nat.zero_le _⟩⟩, fun q5 g5 ⟨i, rows, ei, hi, hP⟩ => ?_⟩⟩
  · show DiskAt (q4.h 11) (.pointer (slP (q4.i 9) (q4.i 10))) _
    rw [g4.i 9 (by omega), g4.i 10 (by omega)]; exact hD4
  · show iev q4 _ = _
    rw [emz]
    have := hSP.pk
    rw [hr0] at this
    rw [this]; simp [packB]
  have G5 : Agree 7 ρ q5 := G4.trans (g5.mono (by omega))
  obtain ⟨v0, v1, v2, v3, v4, w5, w6⟩ := V q5 G5
  rw [v3, ei]
  refine ⟨by omega, fun hlt => ?_, fun hge => yes_out (bev_tt _)⟩
  have hio : ops[i]? = some ops[i] := List.getElem?_eq_getElem (by omega)
  obtain ⟨hx, c0, c1, c2, hB⟩ := hat i _ hio
  obtain ⟨hby1, hk0, hk1⟩ := hby _ (List.getElem_mem (show i < ops.length by omega))
  have hr30 := hrows _ (List.getElem_mem (show i < ops.length by omega))
  have z0 : R.cell x.toNat (y + (i : Int) * 3).toNat = some (.int .u8 ops[i].k) := by rw [show (y + (i : Int) * 3).toNat = y.toNat + i * 3 by omega]; exact c0
  have hslU : ∃ a l c, ops[i].u = Value.slice a l c := by obtain ⟨us, x2, y2, c2, hu, _⟩ := id hB; exact ⟨_, _, _, hu⟩
  have cu : ∀ {q : Env}, Agree 79 q5 q → (q.h 5).cell (q.i 1).toNat ((q.i 2 + q.i 78 * 3).toNat + 1) = some ops[i].u := fun {q} hg => by
    rw [hg.h 5 (by omega), hg.i 1 (by omega), hg.i 2 (by omega), hg.i 78 (by omega), w5, v1, v2, ei, show (y + (i : Int) * 3).toNat + 1 = y.toNat + i * 3 + 1 by omega]; exact c1
  have ck : ∀ {q : Env}, Agree 79 q5 q → iev q ((E.hI 5 (E.var 1) ((E.var 2).add ((E.var 78).mul (E.lit 3))) 0).rem (E.lit 3)) = ops[i].k.tmod 3 := fun {q} hg => by
    show (valI ((q.h 5).cell (q.i 1).toNat ((q.i 2 + q.i 78 * 3).toNat + 0))).tmod 3 = _
    rw [hg.h 5 (by omega), hg.i 1 (by omega), hg.i 2 (by omega), hg.i 78 (by omega), w5, v1, v2, ei, Nat.add_zero, z0]; rfl
  have idx : ∀ {q : Env}, Agree 79 q5 q → ops[(q.i 78).toNat]? = some ops[i] := fun {q} hg => by rw [hg.i 78 (by omega), ei, Int.toNat_natCast]; exact hio
  have mst : ∀ {q : Env}, Agree 7 ρ q → IntKind.i64.wrap (64 * IntKind.i64.wrap (IntKind.i64.wrap (iev q ((E.wrap .i64 ((E.lit 6).add (E.wrap .i64 ((E.var 0).rem (E.lit 125))))).quo (E.lit 2))) - 2)) = 64 * (((m / 2 : Nat) : Int) - 2) := fun {q} hg => by
    simp only [iev_wrap, iev_add, iev_rem, iev_quo, iev_var, iev_lit]
    rw [(V q hg).1, htm, wrap_i64 (n := n % 125) (by omega) (by omega), wrap_i64 (n := 6 + n % 125) (by omega) (by omega), Int.tdiv_eq_ediv_of_nonneg (by omega), wrap_i64 (n := (6 + n % 125) / 2) (by omega) (by omega), wrap_i64 (n := (6 + n % 125) / 2 - 2) (by omega) (by omega), wrap_i64 (by omega) (by omega)]
    omega
  refine ⟨by rw [v1]; exact hx, by rw [v2]; exact hy, by omega, by rw [w5, v1, v2, z0]; rfl, by have := cu (Agree.refl 79 q5); rw [ei] at this; rw [this]; obtain ⟨_, _, _, e⟩ := hslU; rw [e]; rfl, by rw [w5, v1, v2, show (y + (i : Int) * 3).toNat + 2 = y.toNat + i * 3 + 2 by omega, c2]; rfl, fun q6 g6 _ => ?_⟩
  have G6 : Agree 7 ρ q6 := G5.trans (g6.mono (by omega))
  rw [cu (g6.mono (by omega)), sl_parts hslU, (V q6 G6).2.2.2.2.2.1]
  refine ⟨⟨_, R, R, ops[i].rows, rfl, rfl, hB, by omega⟩, fun q7 g7 ⟨_, p7, _, _⟩ => ?_⟩
  have A7 : Agree 100 q5 q7 := g6.trans (g7.mono (by omega))
  have G7 : Agree 7 ρ q7 := G6.trans (g7.mono (by omega))
  obtain ⟨sz, okb, e7, hokb, hsz⟩ := p7 _ R R ops[i].rows rfl rfl hB
  simp only [Value.tuple.injEq, Array.mk.injEq, List.cons.injEq, Value.int.injEq, Value.bool.injEq, true_and, and_true] at e7
  obtain ⟨e101, e102⟩ := e7
  have e102 : q7.b 102 = okb := e102
  have ix7 : ops[(q7.i 78).toNat]? = some ops[i] := idx (A7.mono (by omega))
  rw [ck (A7.mono (by omega)), mst G7]
  refine ⟨⟨fun hno => ⟨_, ix7, ?_⟩, fun hyes => ⟨fun h0 => ⟨fun hr => ⟨_, ix7, ?_⟩, fun hr => ⟨_, ix7, ?_⟩⟩, fun h0 => ⟨fun h1 => ⟨fun hr => ⟨_, ix7, ?_⟩, fun hr => ⟨_, ix7, ?_⟩⟩, fun h1 => ⟨_, ix7, ?_⟩⟩⟩⟩, fun q8 g8 ⟨o, ho, he⟩ => ?_⟩
  · show (3 : Int) = errOf _ (q7.b 102) (q7.i 76) (q7.i 101) _
    unfold errOf; rw [if_neg hno]
  · show (0 : Int) = errOf _ (q7.b 102) (q7.i 76) (q7.i 101) _
    unfold errOf; rw [if_pos hyes, if_neg (by omega)]
  · show (4 : Int) = errOf _ (q7.b 102) (q7.i 76) (q7.i 101) _
    unfold errOf; rw [if_pos hyes, if_pos (by omega)]
  · show (4 : Int) = errOf _ (q7.b 102) (q7.i 76) (q7.i 101) _
    unfold errOf; rw [if_pos hyes, if_pos (by omega)]
  · show (0 : Int) = errOf _ (q7.b 102) (q7.i 76) (q7.i 101) _
    unfold errOf; rw [if_pos hyes, if_neg (by omega)]
  · show (0 : Int) = errOf _ (q7.b 102) (q7.i 76) (q7.i 101) _
    unfold errOf; rw [if_pos hyes, if_neg (by omega)]
  have A8 : Agree 100 q5 q8 := A7.trans (g8.mono (by omega))
  have G8 : Agree 7 ρ q8 := G7.trans (g8.mono (by omega))
  have eo : o = ops[i] := Option.some.inj (ho.symm.trans (idx (A8.mono (by omega))))
  rw [eo, g8.b 102 (by omega), g8.i 101 (by omega), A8.i 76 (by omega), e101, e102] at he
  obtain ⟨⟨D, S, hD, hS, hrec, ⟨hP0⟩, hroom⟩, ⟨Rw, hRw, hwant⟩, hlen⟩ := hP
  have hi30 : i < 30 := by omega
  obtain ⟨mA, mB, lA, lB, mn⟩ := hP0.mostA
  have sA : S.LA.serial = hP0.kA := by rw [hP0.eA]
  have sB : S.LB.serial = hP0.kB := by rw [hP0.eB]
  have gA : genI S.LA = q5.i 77 := by unfold genI; rw [hP0.eA]; exact hP0.gen
  have kk := hP0.kK
  have gg := hP0.g0
  have pkS := hP0.pk
  have D8 : ∀ {q : Env}, Agree 100 q5 q → DiskAt (q.h 80) (.pointer (slP (q.i 9) (q.i 10))) D ∧ StoreAt (q.h 81) (.pointer (slP (q.i 70) (q.i 71))) (.pointer (slP (q.i 9) (q.i 10))) S ∧ (Rw = q.h 82 ∨ Rw = R) ∧ RowsB Rw R (.slice (slP (q.i 72) (q.i 73)) (q.i 74).toNat (q.i 75).toNat) rows ∧ q.i 76 = 64 * (((m / 2 : Nat) : Int) - 2) - S.bA.length ∧ q.i 77 = q5.i 77 ∧ q.i 78 = i := fun {q} hg => by
    rw [hg.h 80 (by omega), hg.h 81 (by omega), hg.h 82 (by omega), hg.i 9 (by omega), hg.i 10 (by omega), hg.i 70 (by omega), hg.i 71 (by omega), hg.i 72 (by omega), hg.i 73 (by omega), hg.i 74 (by omega), hg.i 75 (by omega), hg.i 76 (by omega), hg.i 77 (by omega), hg.i 78 (by omega)]
    exact ⟨hD, hS, hRw, hwant, hroom, rfl, ei⟩
  obtain ⟨hD8, hS8, hRw8, hW8, r8, gn8, _⟩ := D8 A8
  rw [hroom] at he
  rw [ck (q := q8) (A8.mono (by omega)), cu (q := q8) (A8.mono (by omega)), sl_parts hslU, (V q8 G8).2.2.2.2.2.1, (V q8 G8).2.2.2.2.2.2]
  have stay : ∀ {q : Env} {HD2 HS2 : Hl}, Agree 100 q5 q → DiskAt HD2 (.pointer (slP (q.i 9) (q.i 10))) D → StoreAt HS2 (.pointer (slP (q.i 70) (q.i 71))) (.pointer (slP (q.i 9) (q.i 10))) S → PlI R (.pointer (slP (q.i 9) (q.i 10))) m HD2 HS2 (q.h 82) (.pointer (slP (q.i 70) (q.i 71))) (.slice (slP (q.i 72) (q.i 73)) (q.i 74).toNat (q.i 75).toNat) (q.i 76) (q.i 77) (2 * (q.i 78).toNat + 2) rows := fun {q} _ _ hg h1 h2 => by
    obtain ⟨_, _, k3, k4, k5, k6, k7⟩ := D8 hg
    refine ⟨⟨D, S, h1, h2, hrec, ⟨?_⟩, k5⟩, ⟨Rw, k3, k4⟩, by rw [k7]; omega⟩
    rw [k6, k7]; exact hP0.more (by omega)
  refine ⟨⟨fun h0 => ?_, fun h0 => ⟨fun h1 => ?_, fun h1 => ?_⟩⟩, fun q12 g12 ⟨rows2, e12, hP2⟩ => ?_⟩
  · refine ⟨⟨_, _, _, _, R, R, RG, g, _, S, D, ops[i].rows, rfl, rfl, rfl, hS8, hD8, hB, hG, by omega, fun _ _ => Nat.zero_le _, by omega, by rw [sA]; omega, by rw [hrec]; omega⟩, fun q9 g9 ⟨_, p9, _, _⟩ => ?_⟩
    obtain ⟨hD9, hS9, e9⟩ := add_post (H' := q9.h 195) (HD' := q9.h 196) hS8 hD8 hB p9
    have e195 : q9.i 195 = (addR D S ops[i].rows).e := by simpa using e9
    have A9 : Agree 100 q5 q9 := A8.trans (g9.mono (by omega))
    have G9 : Agree 7 ρ q9 := G8.trans (g9.mono (by omega))
    have he9 := (g9.i 190 (by omega)).trans he
    obtain ⟨_, _, hRw9, hW9, r9, gn9, i9⟩ := D8 A9
    refine ⟨fun hz => ?_, fun hnz => ?_⟩
    · rw [hz] at he9
      have hok : okb = true := Bool.of_not_eq_false fun h => by rw [h] at he9; cases he9
      have hk := hokb.1 hok
      have hs := hsz hk
      have hfit : ((packB ops[i].rows).length : Int) ≤ 64 * (((m / 2 : Nat) : Int) - 2) - S.bA.length := by
        unfold errOf at he9
        rw [if_pos hok] at he9
        by_cases hc : 64 * (((m / 2 : Nat) : Int) - 2) - (S.bA.length : Int) < sz
        · rw [if_pos (Or.inl ⟨h0, hc⟩)] at he9; cases he9
        · omega
      obtain ⟨a1, a2, ⟨a3⟩⟩ := hP0.add hk hfit hby1 (by omega)
      rw [cu (q := q9) (A9.mono (by omega)), sl_parts hslU, (V q9 G9).2.2.2.2.2.1]
      refine ⟨⟨_, _, q9.h 82, R, R, Rw, rows, ops[i].rows, rfl, rfl, hRw9, hW9, hB, by omega, by omega⟩, fun q10 g10 ⟨F, p10, hF, _⟩ => ?_⟩
      have hw := p10 _ _ _ _ _ Rw rows ops[i].rows rfl rfl hRw9 hW9 hB
      rw [← hF trivial] at hw
      have A10 : Agree 100 q5 q10 := A9.trans (g10.mono (by omega))
      obtain ⟨_, _, _, _, r10, gn10, i10⟩ := D8 A10
      refine ⟨rows ++ ops[i].rows, ?_, ⟨⟨(addR D S ops[i].rows).D, (addR D S ops[i].rows).S, ?_, ?_, by rw [a2, hrec], ⟨?_⟩, ?_⟩, ⟨q10.h 198, Or.inl rfl, hw⟩, ?_⟩⟩
      · show q10.i 195 = q10.i 190
        rw [g10.i 195 (by omega), g10.i 190 (by omega), hz, e195, a1]
      · show DiskAt (q10.h 196) (.pointer (slP (q10.i 9) (q10.i 10))) _
        rw [g10.h 196 (by omega), g10.i 9 (by omega), g10.i 10 (by omega), g9.i 9 (by omega), g9.i 10 (by omega)]; exact hD9
      · show StoreAt (q10.h 195) (.pointer (slP (q10.i 70) (q10.i 71))) (.pointer (slP (q10.i 9) (q10.i 10))) _
        rw [g10.h 195 (by omega), g10.i 9 (by omega), g10.i 10 (by omega), g10.i 70 (by omega), g10.i 71 (by omega), g9.i 9 (by omega), g9.i 10 (by omega), g9.i 70 (by omega), g9.i 71 (by omega)]; exact hS9
      · show SP _ _ (m / 2) (q10.i 77) (2 * (q10.i 78).toNat + 2)
        rw [gn10, i10]; exact a3.more (by omega)
      · show IntKind.i64.wrap (q10.i 76 - q10.i 101) = _
        have e1 : q10.i 101 = sz := by rw [g10.i 101 (by omega), g9.i 101 (by omega), g8.i 101 (by omega), e101]
        have e2 : (addR D S ops[i].rows).S.bA.length = S.bA.length + (packB ops[i].rows).length := by
          rw [a3.pk, a2, packB_append, List.length_append, ← pkS]
        rw [r10, e1, e2, hs, wrap_i64 (by omega) (by omega)]; omega
      · show (rows ++ ops[i].rows).length ≤ 30 * (2 * (q10.i 78).toNat + 2)
        rw [i10, List.length_append]; omega
    · have hbad : addR D S ops[i].rows = ⟨q9.i 190, D, S⟩ := by
        rw [he9]
        unfold errOf
        by_cases hok : okb = true
        · have hk := hokb.1 hok
          have hs := hsz hk
          by_cases hc : 64 * (((m / 2 : Nat) : Int) - 2) - (S.bA.length : Int) < sz
          · rw [if_pos hok, if_pos (Or.inl ⟨h0, hc⟩)]; exact hP0.addFull hk (by omega)
          · exfalso; apply hnz; rw [he9]; unfold errOf; rw [if_pos hok, if_neg (by omega)]
        · rw [if_neg hok]; exact hP0.addLong fun h => hok (hokb.2 h)
      rw [hbad] at hD9 hS9 e195
      have st := stay (q := q9) (HD2 := q9.h 196) (HS2 := q9.h 195) A9 (by rw [g9.i 9 (by omega), g9.i 10 (by omega)]; exact hD9) (by rw [g9.i 9 (by omega), g9.i 10 (by omega), g9.i 70 (by omega), g9.i 71 (by omega)]; exact hS9)
      exact ⟨rows, e195, st⟩
  · refine ⟨⟨_, _, _, _, R, R, RG, g, _, S, D, ops[i].rows, rfl, rfl, rfl, hS8, hD8, hB, hG, by omega, fun _ _ => Nat.zero_le _, by omega, by omega, by rw [sB]; omega, by rw [sB]; unfold spentN; omega, by rw [sA]; unfold spentN; omega, by rw [gA]; unfold spentN; omega⟩, fun q9 g9 ⟨_, p9, _, _⟩ => ?_⟩
    obtain ⟨hD9, hS9, e9⟩ := cmp_post (H' := q9.h 195) (HD' := q9.h 196) hS8 hD8 hB p9
    have e195 : q9.i 195 = (compR D S ops[i].rows).e := by simpa using e9
    have A9 : Agree 100 q5 q9 := A8.trans (g9.mono (by omega))
    have G9 : Agree 7 ρ q9 := G8.trans (g9.mono (by omega))
    have he9 := (g9.i 190 (by omega)).trans he
    obtain ⟨_, _, hRw9, hW9, r9, gn9, i9⟩ := D8 A9
    refine ⟨fun hz => ?_, fun hnz => ?_⟩
    · rw [hz] at he9
      have hok : okb = true := Bool.of_not_eq_false fun h => by rw [h] at he9; cases he9
      have hk := hokb.1 hok
      have hs := hsz hk
      have hfit : ((packB ops[i].rows).length : Int) ≤ 64 * (((m / 2 : Nat) : Int) - 2) := by
        unfold errOf at he9
        rw [if_pos hok] at he9
        by_cases hc : 64 * (((m / 2 : Nat) : Int) - 2) < sz
        · rw [if_pos (Or.inr ⟨h1, hc⟩)] at he9; cases he9
        · omega
      obtain ⟨a1, a2, ⟨a3⟩⟩ := hP0.comp hk hfit hby1 (by omega)
      have hw : RowsB R R (.slice (slP (valP (some ops[i].u) 0) (valP (some ops[i].u) 1)) (valP (some ops[i].u) 2).toNat (valP (some ops[i].u) 3).toNat) ops[i].rows := by rw [sl_parts hslU]; exact hB
      rw [← cu (q := q9) (A9.mono (by omega))] at hw
      refine ⟨ops[i].rows, ?_, ⟨⟨(compR D S ops[i].rows).D, (compR D S ops[i].rows).S, ?_, ?_, a2, ⟨?_⟩, ?_⟩, ⟨R, Or.inr rfl, hw⟩, ?_⟩⟩
      · show q9.i 195 = q9.i 190
        rw [hz, e195, a1]
      · show DiskAt (q9.h 196) (.pointer (slP (q9.i 9) (q9.i 10))) _
        rw [g9.i 9 (by omega), g9.i 10 (by omega)]; exact hD9
      · show StoreAt (q9.h 195) (.pointer (slP (q9.i 70) (q9.i 71))) (.pointer (slP (q9.i 9) (q9.i 10))) _
        rw [g9.i 9 (by omega), g9.i 10 (by omega), g9.i 70 (by omega), g9.i 71 (by omega)]; exact hS9
      · show SP _ _ (m / 2) (IntKind.u64.wrap (q9.i 77 + 1)) (2 * (q9.i 78).toNat + 2)
        rw [gn9, i9, wrap_u64 (by omega) (by omega)]; exact a3
      · show IntKind.i64.wrap (iev q9 _ - q9.i 101) = _
        have e1 : q9.i 101 = sz := by rw [g9.i 101 (by omega), g8.i 101 (by omega), e101]
        have e2 : (compR D S ops[i].rows).S.bA.length = (packB ops[i].rows).length := by rw [a3.pk, a2]
        have e3 := mst G9
        simp only [iev_wrap, iev_mul, iev_sub, iev_lit] at e3 ⊢
        rw [e3, e1, e2, hs, wrap_i64 (by omega) (by omega)]
      · show ops[i].rows.length ≤ 30 * (2 * (q9.i 78).toNat + 2)
        omega
    · have hbad : compR D S ops[i].rows = ⟨q9.i 190, D, S⟩ := by
        rw [he9]
        unfold errOf
        by_cases hok : okb = true
        · have hk := hokb.1 hok
          have hs := hsz hk
          by_cases hc : 64 * (((m / 2 : Nat) : Int) - 2) < sz
          · rw [if_pos hok, if_pos (Or.inr ⟨h1, hc⟩)]; exact hP0.compFull hk (by omega)
          · exfalso; apply hnz; rw [he9]; unfold errOf; rw [if_pos hok, if_neg (by omega)]
        · rw [if_neg hok]; exact hP0.compLong fun h => hok (hokb.2 h)
      rw [hbad] at hD9 hS9 e195
      have st := stay (q := q9) (HD2 := q9.h 196) (HS2 := q9.h 195) A9 (by rw [g9.i 9 (by omega), g9.i 10 (by omega)]; exact hD9) (by rw [g9.i 9 (by omega), g9.i 10 (by omega), g9.i 70 (by omega), g9.i 71 (by omega)]; exact hS9)
      exact ⟨rows, e195, st⟩
  · obtain ⟨hE, hop, hb1, hb2⟩ := hP0.open
    refine ⟨⟨_, _, [], _, R, D, rfl, rfl, rfl, hD8, ⟨-1, 0, 0, rfl, Int.le_refl 0, Or.inl rfl⟩, fun b hb => (nomatch hb), by rw [hP0.loose]; exact Nat.zero_le _⟩, fun q9 g9 ⟨_, p9, _, _⟩ => ?_⟩
    obtain ⟨p', u', bs', H', R', D', H2, e1, e2, e3, d1, d2, e4, d3⟩ := p9
    simp only [List.cons.injEq, and_true] at e1 e2 e3
    obtain ⟨rfl, rfl⟩ := e1
    subst e2 e3
    obtain rfl := d1.uniq hD8
    rw [crash_same hP0.hA.sure hP0.loose] at d3
    have e4 : [q9.h 195] = [H2] := e4
    simp only [List.cons.injEq, and_true] at e4
    subst e4
    have A9 : Agree 100 q5 q9 := A8.trans (g9.mono (by omega))
    have d3 : DiskAt (q9.h 195) (.pointer (slP (q9.i 9) (q9.i 10))) D' := by rw [g9.i 9 (by omega), g9.i 10 (by omega)]; exact d3
    refine ⟨sopen_pre d3 hb1 hb2, fun q10 g10 ⟨F, p10, hF, _⟩ => ?_⟩
    obtain ⟨pv, hD10, hv10, hS10, _⟩ := sopen_post d3 p10
    simp only [Value.tuple.injEq, Array.mk.injEq, List.cons.injEq, Value.int.injEq, true_and, and_true] at hv10
    obtain ⟨rfl, e199⟩ := hv10
    have hS10 := hS10 hE
    rw [← hF (by simp [cpRoots, Cp.roots, Ck.root]), hop] at hS10
    rw [hE] at e199
    have A10 : Agree 100 q5 q10 := A9.trans (g10.mono (by omega))
    obtain ⟨_, _, k3, k4, k5, k6, k7⟩ := D8 A10
    refine ⟨fun h => absurd e199 h, fun _ => ⟨rows, rfl, ⟨⟨D', S, ?_, ?_, hrec, ⟨?_⟩, k5⟩, ⟨Rw, k3, k4⟩, ?_⟩⟩⟩
    · show DiskAt (q10.h 197) (.pointer (slP (q10.i 9) (q10.i 10))) D'
      rw [g10.i 9 (by omega), g10.i 10 (by omega)]; exact hD10
    · show StoreAt (q10.h 198) (.pointer (slP (q10.i 197) (q10.i 198))) (.pointer (slP (q10.i 9) (q10.i 10))) S
      rw [g10.i 9 (by omega), g10.i 10 (by omega)]; exact hS10
    · show SP D' S (m / 2) (q10.i 77) (2 * (q10.i 78).toNat + 2)
      rw [k6, k7]; exact hP0.more (by omega)
    · show rows.length ≤ 30 * (2 * (q10.i 78).toNat + 2)
      rw [k7]; omega
  · obtain ⟨⟨D', S', hD', hS', hrec', ⟨hP'⟩, hroom'⟩, ⟨Rw', hRw', hw'⟩, hlen'⟩ := hP2
    have A12 : Agree 100 q5 q12 := A8.trans (g12.mono (by omega))
    have i12 : q12.i 78 = i := by rw [A12.i 78 (by omega), ei]
    rw [i12] at hlen' hP'
    obtain ⟨mA', mB', lA', lB', mn'⟩ := hP'.mostA
    have hok' := hP'.ok
    refine ⟨fun _ => ?_, fun h => absurd e12 h⟩
    refine ⟨⟨_, _, _, S', rfl, rfl, hS'.rd, by rw [hrec']; omega, fun r hr => Nat.le_trans (hok' r hr) (by decide)⟩, fun q13 g13 ⟨F, p13, hF, hn13⟩ => ?_⟩
    have hrw := srec_post hS'.rd p13
    rw [← hF trivial, hrec'] at hrw
    have hR5 : ∀ {q : Env}, Agree 100 q12 q → q.h 5 = R := fun {q} hg => by rw [hg.h 5 (by omega), A12.h 5 (by omega), w5]
    rw [hR5 (g13.mono (by omega)), g13.h 222 (by omega), g13.i 212 (by omega), g13.i 213 (by omega), g13.i 214 (by omega), g13.i 215 (by omega)]
    refine ⟨⟨_, _, _, _, _, Rw', rows2, rows2, rfl, rfl, hRw', hrw.b, hw', by omega⟩, fun q14 g14 ⟨_, p14, _, _⟩ => ?_⟩
    obtain ⟨z, ez, hz⟩ := p14 _ _ _ _ _ Rw' rows2 rows2 rfl rfl hRw' hrw.b hw'
    have ez : q14.b 234 = z := Value.bool.inj ez
    have hz := hz rfl
    have B14 : Agree 230 q12 q14 := g13.trans (g14.mono (by omega))
    have S14 : ∀ {q : Env}, Agree 230 q12 q → StoreR (q.h 221) (.pointer (slP (q.i 210) (q.i 211))) (.pointer (slP (q12.i 9) (q12.i 10))) S' := fun {q} hg => by
      rw [hg.h 221 (by omega), hg.i 210 (by omega), hg.i 211 (by omega)]; exact hS'.rd
    refine ⟨fun _ => ?_, fun h => absurd (ez.trans hz) h⟩
    refine ⟨⟨_, _, _, S', rfl, rfl, S14 B14, by omega⟩, fun q15 g15 ⟨_, p15, _, _⟩ => ?_⟩
    have e235 := sroom_post (S14 B14) p15
    have e235 : q15.i 235 = S'.LA.most - S'.bA.length := by simpa using e235
    have B15 : Agree 230 q12 q15 := B14.trans (g15.mono (by omega))
    refine ⟨fun _ => ?_, fun h => absurd (by rw [e235, B15.i 216 (by omega), hroom', mA']) h⟩
    refine ⟨⟨_, _, _, S', rfl, rfl, S14 B15⟩, fun q16 g16 ⟨_, p16, _, _⟩ => ?_⟩
    have e236 := sgen_post (S14 B15) p16
    have e236 : q16.i 236 = genI S'.LA := by simpa using e236
    have B16 : Agree 230 q12 q16 := B15.trans (g16.mono (by omega))
    have gA' : genI S'.LA = q12.i 217 := by unfold genI; rw [hP'.eA]; exact hP'.gen
    refine ⟨fun _ => ?_, fun h => absurd (by rw [e236, B16.i 217 (by omega), gA']) h⟩
    refine ⟨⟨_, _, _, S', rfl, rfl, S14 B16⟩, fun q17 g17 ⟨_, p17, _, _⟩ => ?_⟩
    have e237 : q17.b 237 = S'.over := Value.bool.inj (p17 _ _ _ S' rfl rfl (S14 B16))
    have B17 : Agree 230 q12 q17 := B16.trans (g17.mono (by omega))
    have ew : IntKind.i64.wrap (q17.i 78 + 1) = ((i + 1 : Nat) : Int) := by rw [B17.i 78 (by omega), i12, wrap_i64 (by omega) (by omega)]; rfl
    refine ⟨fun h => absurd (e237.symm.trans h) (by rw [hP'.ov]; simp), fun _ => ⟨⟨i + 1, rows2, ew, by omega, ⟨⟨D', S', ?_, ?_, hrec', ⟨?_⟩, ?_⟩, ⟨Rw', ?_, ?_⟩, by omega⟩⟩, ?_⟩⟩
    · show DiskAt (q17.h 220) (.pointer (slP (q17.i 9) (q17.i 10))) D'
      rw [B17.h 220 (by omega), B17.i 9 (by omega), B17.i 10 (by omega)]; exact hD'
    · show StoreAt (q17.h 221) (.pointer (slP (q17.i 210) (q17.i 211))) (.pointer (slP (q17.i 9) (q17.i 10))) S'
      rw [B17.h 221 (by omega), B17.i 210 (by omega), B17.i 211 (by omega), B17.i 9 (by omega), B17.i 10 (by omega)]; exact hS'
    · show SP D' S' (m / 2) (q17.i 217) (2 * (i + 1))
      rw [B17.i 217 (by omega)]; exact hP'.more (by omega)
    · show q17.i 216 = _
      rw [B17.i 216 (by omega)]; exact hroom'
    · show Rw' = q17.h 222 ∨ Rw' = R
      rw [B17.h 222 (by omega)]; exact hRw'
    · show RowsB Rw' R (.slice (slP (q17.i 212) (q17.i 213)) (q17.i 214).toNat (q17.i 215).toNat) rows2
      rw [B17.i 212 (by omega), B17.i 213 (by omega), B17.i 214 (by omega), B17.i 215 (by omega)]; exact hw'
    · show ((ops.length : Int) - IntKind.i64.wrap (q17.i 78 + 1)).toNat < ((ops.length : Int) - i).toNat
      rw [ew]; omega
end Go.Proofs.YtomdimlnggpgbaaGreatDoor
namespace Go.Proofs.YtomdimlnggpgbaaGreatDoor
open Go Go.Sx Go.Pk Go.RowKit
def laid3 : List (String × DataW Unit) := [("jalousie/store.errLost", Rows.laid_jalousie_store_errLost), ("jalousie/store.errFull", Rows.laid_jalousie_store_errFull), ("jalousie/store.errSpent", Rows.laid_jalousie_store_errSpent)]
theorem gN0 : Tryz.prog.globalNamed "jalousie/store.errLost" = some 0 := by kernel_rfl
theorem gN1 : Tryz.prog.globalNamed "jalousie/store.errFull" = some 1 := by kernel_rfl
theorem gN2 : Tryz.prog.globalNamed "jalousie/store.errSpent" = some 2 := by kernel_rfl
theorem gT0 : (Tryz.prog.globals[0]?).map (·.type) = some 107 := by kernel_rfl
theorem gT1 : (Tryz.prog.globals[1]?).map (·.type) = some 107 := by kernel_rfl
theorem gT2 : (Tryz.prog.globals[2]?).map (·.type) = some 107 := by kernel_rfl
theorem gCells : Tryz.prog.cellsOf 319 = 1 := by kernel_rfl
theorem gCellsS : Tryz.prog.cellsOf 9 = 1 := by kernel_rfl
theorem gStar : "*" ++ "errors.errorString" = "*errors.errorString" := by decide
theorem gRow (u : TypeId) (h : Tryz.prog.typeName? 3 u = some "*errors.errorString") : u = 299 :=
  typeName_ptr_named (nm := "errors.errorString") (by rw [gStar]; kernel_rfl) (by kernel_rfl) (by decide) u (by rw [gStar]; exact h)
set_option maxRecDepth 100000 in
theorem gl_of_laid {W : World} (h : laidMetH Tryz.prog laid3 W) : ∃ a, Gl (Hl.all W) a := by
  rw [MakeChecks.laidMetH_plain _ _ _ (by kernel_rfl)] at h
  obtain ⟨ps, ⟨g0, t0, cs0, f0, p0, q0, hg0, ht0, hv0, hd0, ⟨g1, t1, cs1, f1, p1, q1, hg1, ht1, hv1, hd1, ⟨g2, t2, cs2, f2, p2, q2, hg2, ht2, hv2, hd2, _, e2⟩, e1⟩, e0⟩, hnd, hrows⟩ := h
  obtain rfl := Option.some.inj (gN0.symm.trans hg0)
  obtain rfl := Option.some.inj (gN1.symm.trans hg1)
  obtain rfl := Option.some.inj (gN2.symm.trans hg2)
  obtain rfl := Option.some.inj (gT0.symm.trans ht0)
  obtain rfl := Option.some.inj (gT1.symm.trans ht1)
  obtain rfl := Option.some.inj (gT2.symm.trans ht2)
  subst e2
  subst e1
  subst e0
  obtain ⟨l0⟩ := cs0
  obtain ⟨l1⟩ := cs1
  obtain ⟨l2⟩ := cs2
  have ok0 : ∀ u v, l0 = [.iface u v] → Value.okWide Tryz.prog W .any 0 u v := fun u v e => by
    subst e
    exact (hrows 0 0 (by simp [MemPlace.row])).2 u v (by simpa using World.var?_cell hg0 hv0 0)
  have ok1 : ∀ u v, l1 = [.iface u v] → Value.okWide Tryz.prog W .any 0 u v := fun u v e => by
    subst e
    exact (hrows 1 0 (by simp [MemPlace.row])).2 u v (by simpa using World.var?_cell hg1 hv1 0)
  have ok2 : ∀ u v, l2 = [.iface u v] → Value.okWide Tryz.prog W .any 0 u v := fun u v e => by
    subst e
    exact (hrows 2 0 (by simp [MemPlace.row])).2 u v (by simpa using World.var?_cell hg2 hv2 0)
  obtain ⟨a0, s0, rfl, hc0, hs0, hz0, rfl⟩ := errorString_of_trod Tryz.underlying107 gRow Tryz.underlying299 Tryz.underlying319 rfl rfl Tryz.underlying9 gCells gCellsS hd0 ok0
  obtain ⟨a1, s1, rfl, hc1, hs1, hz1, rfl⟩ := errorString_of_trod Tryz.underlying107 gRow Tryz.underlying299 Tryz.underlying319 rfl rfl Tryz.underlying9 gCells gCellsS hd1 ok1
  obtain ⟨a2, s2, rfl, hc2, hs2, hz2, rfl⟩ := errorString_of_trod Tryz.underlying107 gRow Tryz.underlying299 Tryz.underlying319 rfl rfl Tryz.underlying9 gCells gCellsS hd2 ok2
  obtain ⟨b0, y0, hb0⟩ := (hrows a0.block a0.off (by simp [MemPlace.row])).1
  obtain ⟨b1, y1, hb1⟩ := (hrows a1.block a1.off (by simp [MemPlace.row])).1
  obtain ⟨b2, y2, hb2⟩ := (hrows a2.block a2.off (by simp [MemPlace.row])).1
  have n01 : a0 ≠ a1 := by rintro rfl; simp [MemPlace.row] at hnd
  have n02 : a0 ≠ a2 := by rintro rfl; simp [MemPlace.row] at hnd
  have n12 : a1 ≠ a2 := by rintro rfl; simp [MemPlace.row] at hnd
  have cell : ∀ {g : Nat} {v : Value}, W.cell? ⟨g, 0, none⟩ = some v → (Hl.all W).cell g 0 = some v := by
    intro g v h
    unfold World.cell? at h
    unfold Hl.cell Hl.all
    cases hh : W.heap[g]? with
    | none => simp [hh] at h
    | some o => cases o <;> simp_all
  have c0 := cell (World.var?_cell hg0 hv0 0)
  have c1 := cell (World.var?_cell hg1 hv1 0)
  have c2 := cell (World.var?_cell hg2 hv2 0)
  refine ⟨fun g => if g = gLost then a0 else if g = gFull then a1 else a2, fun g hg => ?_, fun g hg => ?_, fun g h hg hh hne => ?_⟩
  · rcases hg with rfl | rfl | rfl
    · exact c0
    · exact c1
    · exact c2
  · rcases hg with rfl | rfl | rfl
    · exact ⟨b0, y0, hb0⟩
    · exact ⟨b1, y1, hb1⟩
    · exact ⟨b2, y2, hb2⟩
  · rcases hg with rfl | rfl | rfl <;> rcases hh with rfl | rfl | rfl
    · exact absurd rfl hne
    · exact n01
    · exact n02
    · exact fun e => n01 e.symm
    · exact absurd rfl hne
    · exact n12
    · exact fun e => n02 e.symm
    · exact fun e => n12 e.symm
    · exact absurd rfl hne
theorem door_met (os : Os) (args : Array Value) : laidMetH Tryz.prog laid3 ((World.doorLaid Tryz.prog 400 os).forCall (fun _ _ => 0) ⟨#[], args, []⟩).memory :=
  laidMetH_of_parts3 (fuel := 8) (laidMet_of_run' 8 (by kernel_rfl) (by kernel_rfl)) (by kernel_rfl) (by kernel_rfl)
end Go.Proofs.YtomdimlnggpgbaaGreatDoor
namespace Go.Sx
open Go Go.ChangeShapes Go.WideShapes Go.ChangeAt Go.RowKit Go.Deep
def okC (v : Value) : Kd → Prop
  | .int k => ∃ n, v = .int k n ∧ (Lit.int k n).wf = true
  | .bool => ∃ b, v = .bool b
  | _ => False
def okCs : List Value → List Kd → Prop
  | [], [] => True
  | v :: l, k :: m => okC v k ∧ okCs l m
  | _, _ => False
theorem okCs_append : ∀ {l m : List Value} {a b : List Kd}, okCs l a → okCs m b → okCs (l ++ m) (a ++ b)
  | [], m, [], b, _, h => h
  | v :: l, m, k :: a, b, h, h2 => ⟨h.1, okCs_append h.2 h2⟩
  | [], _, _ :: _, _, h, _ => h.elim
  | _ :: _, _, [], _, h, _ => h.elim
theorem okCs_get : ∀ {l : List Value} {a : List Kd}, okCs l a → ∀ (j : Nat) (k : Kd), a[j]? = some k → ∃ v, l[j]? = some v ∧ okC v k
  | _ :: l, _ :: a, h, 0, k, hk => by simp at hk; subst hk; exact ⟨_, rfl, h.1⟩
  | _ :: l, _ :: a, h, j + 1, k, hk => by simpa using okCs_get h.2 j k (by simpa using hk)
  | [], [], _, j, k, hk => by simp at hk
  | [], _ :: _, h, _, _, _ => h.elim
  | _ :: _, [], h, _, _, _ => h.elim
def fieldsK (f : TypeId → Option (List Kd)) : List Field → Nat → Option (List Kd)
  | [], _ => some []
  | fl :: l, o => if fl.offset = o then match f fl.type with
    | some a => match fieldsK f l (o + a.length) with
      | some b => some (a ++ b)
      | none => none
    | none => none
    else none
def repK (a : List Kd) : Nat → List Kd
  | 0 => []
  | n + 1 => a ++ repK a n
def kindsT (P : Program) : Nat → TypeId → Option (List Kd)
  | 0, _ => none
  | d + 1, t => match P.underlying t with
    | some (.int k) => some [.int k]
    | some .bool => some [.bool]
    | some (.array n e) => match kindsT P d e with
      | some a => if a.length = P.cellsOf e ∧ P.cellsOf t = n * a.length then some (repK a n) else none
      | none => none
    | some (.struct fs) => match fieldsK (fun u => (kindsT P d u).bind fun a => if a.length = P.cellsOf u then some a else none) fs.toList 0 with
      | some a => if a.length = P.cellsOf t then some a else none
      | none => none
    | _ => none
section
variable {H : Type} {enc : TypeId × Value → H} {P : Program} {w : World} {base : Nat} {spare : Nat → Bool} {held : Bool}
theorem trod_fields {g : TypeId → Option (List Kd)} {cs : List Value} : ∀ (l : List Field) (o : Nat) (ks : List Kd), fieldsK g l o = some ks →
    (∀ (fl : Field) (a : List Kd), fl ∈ l → g fl.type = some a → okCs ((cs.drop fl.offset).take a.length) a) → okCs ((cs.drop o).take ks.length) ks
  | [], o, ks, h, _ => by cases h; simp [okCs]
  | fl :: l, o, ks, h, hq => by
    simp only [fieldsK] at h
    split at h
    · rename_i ho; subst ho
      split at h
      · rename_i a ha
        split at h
        · rename_i b hb
          cases h
          have h1 := hq fl a (by simp) ha
          have h2 := trod_fields l (fl.offset + a.length) b hb fun f c hf hc => hq f c (List.mem_cons_of_mem _ hf) hc
          have e : (cs.drop fl.offset).take (a ++ b).length = (cs.drop fl.offset).take a.length ++ (cs.drop (fl.offset + a.length)).take b.length := by
            rw [List.length_append, List.take_add, List.drop_drop]
          rw [e]
          exact okCs_append h1 h2
        · cases h
      · cases h
    · cases h
theorem trod_reps {cs : List Value} {a : List Kd} : ∀ (n : Nat) (o : Nat), (∀ i, i < n → okCs ((cs.drop (o + i * a.length)).take a.length) a) → okCs ((cs.drop o).take (n * a.length)) (repK a n)
  | 0, o, _ => by simp [okCs, repK]
  | n + 1, o, h => by
    have h0 := h 0 (by omega)
    simp only [Nat.zero_mul, Nat.add_zero] at h0
    have ih := trod_reps n (o + a.length) fun i hi => by
      have := h (i + 1) (by omega)
      rwa [Nat.add_mul, Nat.one_mul, Nat.add_comm (i * a.length), ← Nat.add_assoc] at this
    have e : (cs.drop o).take ((n + 1) * a.length) = (cs.drop o).take a.length ++ (cs.drop (o + a.length)).take (n * a.length) := by
      rw [Nat.add_mul, Nat.one_mul, Nat.add_comm (n * a.length), List.take_add, List.drop_drop]
    rw [e]
    exact okCs_append h0 ih
theorem trod_kinds : ∀ (d : Nat) (t : TypeId) (ks : List Kd) (fuel : Nat) (cs : List Value) (x : DataW H × List MemPlace), kindsT P d t = some ks → DataW.trod enc P w base spare held fuel t cs = some x → okCs cs ks := by
  intro d
  induction d with
  | zero => intro t ks fuel cs x h; cases h
  | succ d ih =>
    intro t ks fuel cs x h hx
    simp only [kindsT] at h
    split at h
    · rename_i k hu
      cases h
      obtain ⟨n, rfl, _, hw⟩ := DataW.trod_int hu hx
      exact ⟨⟨n, rfl, hw⟩, trivial⟩
    · rename_i hu
      cases h
      obtain ⟨b, rfl, _⟩ := DataW.trod_bool hu hx
      exact ⟨⟨b, rfl⟩, trivial⟩
    · rename_i n e hu
      split at h
      · rename_i a ha
        split at h
        · rename_i hc
          cases h
          obtain ⟨xs, m, _, _, hl, hxl, hxi⟩ := DataW.trod_array hu hx
          have key := trod_reps (cs := cs) (a := a) n 0 fun i hi => by
            have h1 := hxi i hi
            rw [← hc.1, List.getElem?_eq_getElem (by omega)] at h1
            rw [Nat.zero_add]
            exact ih e a m _ _ ha h1
          rw [List.drop_zero, ← hc.2, ← hl, List.take_length] at key
          exact key
        · cases h
      · cases h
    · rename_i fs hu
      split at h
      · rename_i a ha
        split at h
        · rename_i hc
          cases h
          obtain ⟨xs, m, _, _, hl, hxl, hxi⟩ := DataW.trod_struct hu hx
          have key := trod_fields (cs := cs) fs.toList 0 ks ha fun fl b hfl hb => by
            obtain ⟨i, hi⟩ := List.getElem?_of_mem hfl
            have hi' : fs[i]? = some fl := by simpa using hi
            have h1 := hxi i fl hi'
            cases hk : kindsT P d fl.type with
            | none => simp [hk] at hb
            | some b' =>
              simp only [hk, Option.bind_some] at hb
              split at hb
              · rename_i hlen
                cases hb
                have hlt : i < xs.length := by rw [hxl]; exact (Array.getElem?_eq_some_iff.1 hi').1
                rw [← hlen, List.getElem?_eq_getElem hlt] at h1
                exact ih fl.type b m _ _ hk h1
              · cases hb
          rw [List.drop_zero, hc, ← hl, List.take_length] at key
          exact key
        · cases h
      · cases h
    · cases h
theorem open_rows {t e : TypeId} {ks : List Kd} {dp : Nat} {fuel : Nat} {cs : List Value} {x : DataW H × List MemPlace} (ht : P.underlying t = some (.slice e)) (hk : kindsT P dp e = some ks) (hC : P.cellsOf e = ks.length)
    (h : DataW.trod enc P w base spare held fuel t cs = some x) :
    cs = [.slice none 0 0] ∨ ∃ (a : Addr) (len cap : Nat), cs = [.slice (some a) len cap] ∧ len ≤ cap ∧ cap ≤ maxLen ∧
      ∀ i, i < len → ∀ (j : Nat) (k : Kd), ks[j]? = some k → ∃ v, w.cell? (a.add (i * ks.length + j)) = some v ∧ okC v k := by
  rcases open_slice ht h with h0 | ⟨a, len, cap, m, n, D, Pl, hcs, hb, hl, hm, hmm, hx, hi⟩
  · exact Or.inl h0.1
  · refine Or.inr ⟨a, len, cap, hcs, hl, hm, fun i hil j k hj => ?_⟩
    have him : i < m := by rw [hmm]; split <;> omega
    obtain ⟨cs', hc, ht'⟩ := hi i him
    rw [hC] at hc
    obtain ⟨_, hcl, hat⟩ := World.cells?_some hc
    have hok := trod_kinds dp e ks n cs' _ hk ht'
    obtain ⟨v, hv, hov⟩ := okCs_get hok j k hj
    have hjl : j < ks.length := (List.getElem?_eq_some_iff.1 hj).1
    refine ⟨v, ?_, hov⟩
    rw [← Go.Deep.add_add, hat j hjl, hv]
end
end Go.Sx
namespace Go.Sx
open Go Go.ChangeShapes Go.WideShapes Go.ChangeAt Go.RowKit Go.Deep
theorem u8_wf {n : Int} (h : (Lit.int .u8 n).wf = true) : 0 ≤ n ∧ n < 256 := by
  simp only [Lit.wf, IntKind.min, IntKind.max, IntKind.signed, IntKind.bits, Bool.and_eq_true, decide_eq_true_eq] at h
  simp at h
  omega
section
variable {H : Type} {enc : TypeId × Value → H} {P : Program} {W : World} {base : Nat} {spare : Nat → Bool} {held : Bool} {d : DataW H} {p : List MemPlace}
theorem all_cell {b y : Nat} {v : Value} (h : W.cell? ⟨b, y, none⟩ = some v) : (Hl.all W).cell b y = some v := by
  unfold Hl.cell Hl.all
  unfold World.cell? at h
  split at h
  · rename_i c T fr hb
    rw [hb]
    simpa using h
  · cases h
theorem cell_spot {a : Addr} {v : Value} (hv : W.cell? a = some v) : a.spot = none := by
  unfold World.cell? at hv
  split at hv
  · split at hv
    · cases hv
    · rename_i h; simpa using h
  · cases hv
end
theorem spec_yes {P : Program} {s : Spec} (h : s.OK P) (ho : s.own = []) {W : World} {xs : List Value} (hpre : s.pre xs [] (List.replicate s.rd.length (Hl.all W)))
    (hpost : ∀ ρ F, s.post xs [] (List.replicate s.rd.length (Hl.all W)) ((cpTV 0 s.res).ev ρ) [] F → (cpTV 0 s.res).ev ρ = .bool true) :
    Calls P s.fn xs.toArray W fun e w' => e = .returned (.bool true) ∧ Below W.heap.size W w' := by
  have := h W xs [] (List.replicate s.rd.length (Hl.all W)) (by rw [ho]; rfl) (by simp) (fun _ h => nomatch h) (fun R hR => by rw [(List.mem_replicate.1 hR).2]; exact Hl.all_sub W) (fun p _ H _ _ h => by simp at h) (fun _ h => nomatch h) hpre
  refine this.mono ?_
  rintro e w' ⟨ρ, Hs', F, rfl, _, ht, hp⟩
  have e0 : Hs' = [] := List.length_eq_zero_iff.1 ht.len
  subst e0
  exact ⟨by rw [hpost ρ F hp], ⟨ht.os, ht.tape, ht.output, ht.size, fun b hb => ht.block b hb (fun _ h => nomatch h)⟩⟩
end Go.Sx
namespace Go.Sx
open Go Go.ChangeShapes Go.WideShapes Go.ChangeAt Go.RowKit Go.Deep
section
variable {H : Type} {enc : TypeId × Value → H} {P : Program} {W : World} {base : Nat} {spare : Nat → Bool} {held : Bool} {d : DataW H} {p : List MemPlace}
theorem bytes_of {t e : TypeId} {dp : Nat} (ht : P.underlying t = some (.slice e)) (hk : kindsT P dp e = some [.int .u8]) (hC : P.cellsOf e = 1) {v : Value} (hv : ∃ a l c, v = .slice a l c) (h : DataW.Trod enc P W base spare held t v d p) :
    ∃ bs, RdW (Hl.all W) v bs ∧ ∀ b ∈ bs, 0 ≤ b ∧ b < 256 := by
  obtain ⟨a0, len0, cap0, rfl⟩ := hv
  obtain ⟨fuel, hf⟩ := h
  rcases open_rows ht hk hC hf with h | ⟨a, len, cap, hcs, hl, hc, hat⟩
  · simp only [Value.cells, List.cons.injEq, Value.slice.injEq, and_true] at h
    obtain ⟨rfl, rfl, rfl⟩ := h
    exact ⟨[], ⟨-1, 0, 0, rfl, by omega, Or.inl rfl⟩, fun _ h => nomatch h⟩
  · simp only [Value.cells, List.cons.injEq, Value.slice.injEq, and_true] at hcs
    obtain ⟨rfl, rfl, rfl⟩ := hcs
    rcases Nat.eq_zero_or_pos len0 with h0 | h0
    · subst h0
      obtain ⟨x, y, hx, hy, _⟩ := slP_all (some a)
      exact ⟨[], ⟨x, y, cap0, by rw [hx]; rfl, hy, Or.inl rfl⟩, fun _ h => nomatch h⟩
    · have hcell : ∀ i, i < len0 → ∃ n, W.cell? (a.add i) = some (.int .u8 n) ∧ 0 ≤ n ∧ n < 256 := by
        intro i hi
        obtain ⟨v, hv, ho⟩ := hat i hi 0 _ rfl
        obtain ⟨n, rfl, hw⟩ := ho
        refine ⟨n, ?_, u8_wf hw⟩
        rw [show i = i * ([Kd.int .u8] : List Kd).length + 0 by simp]; exact hv
      have hsp : a.spot = none := by
        obtain ⟨n, hn, _⟩ := hcell 0 h0
        simp only [Addr.add, if_true, Nat.add_zero] at hn
        exact cell_spot hn
      obtain ⟨blk, off, spot⟩ := a
      simp only at hsp
      subst hsp
      have hget : ∀ j z, ((List.range len0).map fun i => valI (W.cell? ⟨blk, off + i, none⟩))[j]? = some z → W.cell? ⟨blk, off + j, none⟩ = some (.int .u8 z) ∧ 0 ≤ z ∧ z < 256 := by
        intro j z hz
        have hj : j < len0 := by have := (List.getElem?_eq_some_iff.1 hz).1; simpa using this
        rw [List.getElem?_map, List.getElem?_range hj] at hz
        simp only [Option.map_some, Option.some.injEq] at hz
        obtain ⟨n, hn, hr⟩ := hcell j hj
        rw [addr_add] at hn
        rw [hn] at hz
        have hz : n = z := hz
        subst hz
        exact ⟨hn, hr⟩
      refine ⟨(List.range len0).map fun i => valI (W.cell? ⟨blk, off + i, none⟩), ⟨blk, off, cap0, ?_, by omega, Or.inr ⟨by omega, fun j z hz => ?_⟩⟩, fun b hb => ?_⟩
      · rw [slP_pos (by omega), List.length_map, List.length_range]; rfl
      · simp only [Int.toNat_natCast]
        exact all_cell (hget j z hz).1
      · obtain ⟨j, hj⟩ := List.mem_iff_getElem?.1 hb
        exact (hget j b hj).2
theorem u8_of {t : TypeId} (ht : P.underlying t = some (.int .u8)) {n : Int} (h : DataW.Trod enc P W base spare held t (.int .u8 n) d p) : 0 ≤ n ∧ n < 256 := by
  obtain ⟨fuel, hf⟩ := h
  obtain ⟨m, hn, _, hw⟩ := DataW.trod_int ht hf
  simp only [Value.cells, List.cons.injEq, Value.int.injEq, true_and, and_true] at hn
  subst hn
  exact u8_wf hw
end
end Go.Sx
namespace Go.Sx
open Go Go.ChangeShapes Go.WideShapes Go.ChangeAt Go.RowKit Go.Deep
section
variable {H : Type} {enc : TypeId × Value → H} {P : Program} {W : World} {base : Nat} {spare : Nat → Bool} {held : Bool} {d : DataW H} {p : List MemPlace}
theorem slB_of {t e e2 : TypeId} {dp : Nat} (ht : P.underlying t = some (.slice e)) (he : P.underlying e = some (.slice e2)) (hk : kindsT P dp e2 = some [.int .u8]) (hC : P.cellsOf e = 1) (hC2 : P.cellsOf e2 = 1) {v : Value} (hv : ∃ a l c, v = .slice a l c) (h : DataW.Trod enc P W base spare held t v d p) :
    ∃ (us : List Value) (rows : List (List Int)) (x y : Int) (c : Nat), v = .slice (slP x y) us.length c ∧ 0 ≤ y ∧ us.length = rows.length ∧ (∀ (j : Nat) (u : Value), us[j]? = some u → 0 ≤ x ∧ (Hl.all W).cell x.toNat (y.toNat + j) = some u) ∧ (∀ (j : Nat) (u : Value) (r : List Int), us[j]? = some u → rows[j]? = some r → RdW (Hl.all W) u r) ∧ ∀ r ∈ rows, ∀ b ∈ r, 0 ≤ b ∧ b < 256 := by
  obtain ⟨a0, len0, cap0, rfl⟩ := hv
  obtain ⟨fuel, hf⟩ := h
  rcases open_slice ht hf with h | ⟨a, len, cap, m, n, D, Pl, hcs, hb, hl, hm, hmm, hx, hi⟩
  · have h := h.1
    simp only [Value.cells, List.cons.injEq, Value.slice.injEq, and_true] at h
    obtain ⟨rfl, rfl, rfl⟩ := h
    exact ⟨[], [], -1, 0, 0, rfl, by omega, rfl, (fun _ _ h => nomatch h), (fun _ _ _ h => nomatch h), fun _ h => nomatch h⟩
  · simp only [Value.cells, List.cons.injEq, Value.slice.injEq, and_true] at hcs
    obtain ⟨rfl, rfl, rfl⟩ := hcs
    have hlm : len0 ≤ m := by rw [hmm]; split <;> omega
    have each : ∀ i, i < len0 → ∃ (u : Value) (bs : List Int), W.cell? (a.add i) = some u ∧ RdW (Hl.all W) u bs ∧ ∀ b ∈ bs, 0 ≤ b ∧ b < 256 := by
      intro i hil
      obtain ⟨cs', hc, ht'⟩ := hi i (by omega)
      rw [hC, Nat.mul_one] at hc
      obtain ⟨_, hcl, hat⟩ := World.cells?_some hc
      obtain ⟨u, rfl, hu⟩ : ∃ u, cs' = [u] ∧ ∃ a l c, u = .slice a l c := by
        rcases open_slice he ht' with h | ⟨a, len, cap, m, n, D, Pl, hcs, _⟩
        · exact ⟨_, h.1, _, _, _, rfl⟩
        · exact ⟨_, hcs, _, _, _, rfl⟩
      have h0 := hat 0 (by omega)
      have ha : (a.add i).add 0 = a.add i := by
        obtain ⟨blk, off, spot⟩ := a
        cases spot <;> simp [Addr.add]
      rw [ha] at h0
      obtain ⟨a1, l1, c1, rfl⟩ := hu
      obtain ⟨bs, hr, hb⟩ := bytes_of (enc := enc) (W := W) (base := base) (spare := spare) (held := held) he hk hC2 ⟨a1, l1, c1, rfl⟩ ⟨n, by simpa [Value.cells] using ht'⟩
      exact ⟨_, bs, by simpa using h0, hr, hb⟩
    rcases Nat.eq_zero_or_pos len0 with h0 | h0
    · subst h0
      obtain ⟨x, y, hx, hy, _⟩ := slP_all (some a)
      exact ⟨[], [], x, y, cap0, by rw [hx]; rfl, hy, rfl, (fun _ _ h => nomatch h), (fun _ _ _ h => nomatch h), fun _ h => nomatch h⟩
    · have hsp : a.spot = none := by
        obtain ⟨u, bs, hc, _⟩ := each 0 h0
        simp only [Addr.add, if_true] at hc
        exact cell_spot hc
      obtain ⟨blk, off, spot⟩ := a
      simp only at hsp
      subst hsp
      classical
      let un : Nat → Value := fun i => if h : i < len0 then (each i h).choose else .bool false
      let bn : Nat → List Int := fun i => if h : i < len0 then (each i h).choose_spec.choose else []
      have hub : ∀ i, i < len0 → W.cell? ⟨blk, off + i, none⟩ = some (un i) ∧ RdW (Hl.all W) (un i) (bn i) ∧ ∀ b ∈ bn i, 0 ≤ b ∧ b < 256 := by
        intro i hil
        have := (each i hil).choose_spec.choose_spec
        simp only [un, bn, dif_pos hil]
        refine ⟨?_, this.2⟩
        rw [← addr_add]
        exact this.1
      have get : ∀ (j : Nat) (u : Value), ((List.range len0).map un)[j]? = some u → j < len0 ∧ u = un j := by
        intro j u hj
        have hl : j < len0 := by have := (List.getElem?_eq_some_iff.1 hj).1; simpa using this
        rw [List.getElem?_map, List.getElem?_range hl, Option.map_some, Option.some.injEq] at hj
        exact ⟨hl, hj.symm⟩
      refine ⟨(List.range len0).map un, (List.range len0).map bn, blk, off, cap0, ?_, by omega, by simp, fun j u hj => ?_, fun j u r hj hr => ?_, fun r hr => ?_⟩
      · rw [slP_pos (by omega), List.length_map, List.length_range]; rfl
      · obtain ⟨hl, rfl⟩ := get j u hj
        refine ⟨by omega, ?_⟩
        simp only [Int.toNat_natCast]
        exact all_cell (hub j hl).1
      · obtain ⟨hl, rfl⟩ := get j u hj
        rw [List.getElem?_map, List.getElem?_range hl, Option.map_some, Option.some.injEq] at hr
        subst hr
        exact (hub j hl).2.1
      · obtain ⟨i, hi, rfl⟩ := List.mem_map.1 hr
        exact (hub i (List.mem_range.1 hi)).2.2
end
end Go.Sx
namespace Go.Ex
open Go Go.ChangeShapes Go.WideShapes Go.ChangeAt Go.RowKit Go.Deep
inductive Kt | int (k : IntKind) | bool | other (t : TypeId)
def okK (Φ : Value → TypeId → Prop) (v : Value) : Kt → Prop
  | .int k => ∃ n, v = .int k n ∧ (Lit.int k n).wf = true
  | .bool => ∃ b, v = .bool b
  | .other t => Φ v t
variable {Φ : Value → TypeId → Prop}
def SlOK (Φ : Value → TypeId → Prop) : Prop := ∀ v t, Φ v t → ∃ a len cap, v = .slice a len cap
def okKs (Φ : Value → TypeId → Prop) : List Value → List Kt → Prop
  | [], [] => True
  | v :: l, k :: m => okK Φ v k ∧ okKs Φ l m
  | _, _ => False
theorem okKs_append : ∀ {l m : List Value} {a b : List Kt}, okKs Φ l a → okKs Φ m b → okKs Φ (l ++ m) (a ++ b)
  | [], m, [], b, _, h => h
  | v :: l, m, k :: a, b, h, h2 => ⟨h.1, okKs_append h.2 h2⟩
  | [], _, _ :: _, _, h, _ => h.elim
  | _ :: _, _, [], _, h, _ => h.elim
theorem okKs_length : ∀ {l : List Value} {a : List Kt}, okKs Φ l a → l.length = a.length
  | [], [], _ => rfl
  | _ :: l, _ :: a, h => by simp [okKs_length h.2]
  | [], _ :: _, h => h.elim
  | _ :: _, [], h => h.elim
def fieldsK2 (f : TypeId → Option (List Kt)) : List Field → Nat → Option (List Kt)
  | [], _ => some []
  | fl :: l, o => if fl.offset = o then match f fl.type with
    | some a => match fieldsK2 f l (o + a.length) with
      | some b => some (a ++ b)
      | none => none
    | none => none
    else none
def repK2 (a : List Kt) : Nat → List Kt
  | 0 => []
  | n + 1 => a ++ repK2 a n
def kindsT2 (P : Program) : Nat → TypeId → Option (List Kt)
  | 0, _ => none
  | d + 1, t => match P.underlying t with
    | some (.int k) => some [.int k]
    | some .bool => some [.bool]
    | some (.slice _) => some [.other t]
    | some (.array n e) => match kindsT2 P d e with
      | some a => if a.length = P.cellsOf e ∧ P.cellsOf t = n * a.length then some (repK2 a n) else none
      | none => none
    | some (.struct fs) => match fieldsK2 (fun u => (kindsT2 P d u).bind fun a => if a.length = P.cellsOf u then some a else none) fs.toList 0 with
      | some a => if a.length = P.cellsOf t then some a else none
      | none => none
    | _ => none
section
variable {H : Type} {enc : TypeId × Value → H} {P : Program} {w : World} {base : Nat} {spare : Nat → Bool} {held : Bool}
theorem trod_fields2 {g : TypeId → Option (List Kt)} {cs : List Value} : ∀ (l : List Field) (o : Nat) (ks : List Kt), fieldsK2 g l o = some ks →
    (∀ (fl : Field) (a : List Kt), fl ∈ l → g fl.type = some a → okKs Φ ((cs.drop fl.offset).take a.length) a) → okKs Φ ((cs.drop o).take ks.length) ks
  | [], o, ks, h, _ => by cases h; simp [okKs]
  | fl :: l, o, ks, h, hq => by
    simp only [fieldsK2] at h
    split at h
    · rename_i ho; subst ho
      split at h
      · rename_i a ha
        split at h
        · rename_i b hb
          cases h
          have h1 := hq fl a (by simp) ha
          have h2 := trod_fields2 l (fl.offset + a.length) b hb fun f c hf hc => hq f c (List.mem_cons_of_mem _ hf) hc
          have e : (cs.drop fl.offset).take (a ++ b).length = (cs.drop fl.offset).take a.length ++ (cs.drop (fl.offset + a.length)).take b.length := by
            rw [List.length_append, List.take_add, List.drop_drop]
          rw [e]
          exact okKs_append h1 h2
        · cases h
      · cases h
    · cases h
theorem trod_reps2 {cs : List Value} {a : List Kt} : ∀ (n : Nat) (o : Nat), (∀ i, i < n → okKs Φ ((cs.drop (o + i * a.length)).take a.length) a) → okKs Φ ((cs.drop o).take (n * a.length)) (repK2 a n)
  | 0, o, _ => by simp [okKs, repK2]
  | n + 1, o, h => by
    have h0 := h 0 (by omega)
    simp only [Nat.zero_mul, Nat.add_zero] at h0
    have ih := trod_reps2 n (o + a.length) fun i hi => by
      have := h (i + 1) (by omega)
      rwa [Nat.add_mul, Nat.one_mul, Nat.add_comm (i * a.length), ← Nat.add_assoc] at this
    have e : (cs.drop o).take ((n + 1) * a.length) = (cs.drop o).take a.length ++ (cs.drop (o + a.length)).take (n * a.length) := by
      rw [Nat.add_mul, Nat.one_mul, Nat.add_comm (n * a.length), List.take_add, List.drop_drop]
    rw [e]
    exact okKs_append h0 ih
abbrev trodΦ (enc : TypeId × Value → H) (P : Program) (w : World) (base : Nat) (spare : Nat → Bool) (held : Bool) (v : Value) (t : TypeId) : Prop := (∃ e, P.underlying t = some (.slice e)) ∧ ∃ m x, DataW.trod enc P w base spare held m t [v] = some x
theorem trodΦ_sl : SlOK (trodΦ enc P w base spare held) := by
  rintro v t ⟨⟨e, hu⟩, m, x, hx⟩
  rcases open_slice hu hx with h0 | ⟨a, len, cap, m, n, D, Pl, hcs, _⟩
  · have h1 := h0.1
    simp only [List.cons.injEq, and_true] at h1
    exact ⟨none, 0, 0, h1⟩
  · simp only [List.cons.injEq, and_true] at hcs
    exact ⟨some a, len, cap, hcs⟩
theorem trod_kinds2 : ∀ (d : Nat) (t : TypeId) (ks : List Kt) (fuel : Nat) (cs : List Value) (x : DataW H × List MemPlace), kindsT2 P d t = some ks → DataW.trod enc P w base spare held fuel t cs = some x → okKs (trodΦ enc P w base spare held) cs ks := by
  intro d
  induction d with
  | zero => intro t ks fuel cs x h; cases h
  | succ d ih =>
    intro t ks fuel cs x h hx
    simp only [kindsT2] at h
    split at h
    · rename_i k hu
      cases h
      obtain ⟨n, rfl, _, hw⟩ := DataW.trod_int hu hx
      exact ⟨⟨n, rfl, hw⟩, trivial⟩
    · rename_i hu
      cases h
      obtain ⟨b, rfl, _⟩ := DataW.trod_bool hu hx
      exact ⟨⟨b, rfl⟩, trivial⟩
    · rename_i e hu
      cases h
      rcases open_slice hu hx with h0 | ⟨a, len, cap, m, n, D, Pl, hcs, _⟩
      · have h1 := h0.1
        subst h1
        exact ⟨⟨⟨_, hu⟩, fuel, x, hx⟩, trivial⟩
      · subst hcs
        exact ⟨⟨⟨_, hu⟩, fuel, x, hx⟩, trivial⟩
    · rename_i n e hu
      split at h
      · rename_i a ha
        split at h
        · rename_i hc
          cases h
          obtain ⟨xs, m, _, _, hl, hxl, hxi⟩ := DataW.trod_array hu hx
          have key := trod_reps2 (cs := cs) (a := a) n 0 fun i hi => by
            have h1 := hxi i hi
            rw [← hc.1, List.getElem?_eq_getElem (by omega)] at h1
            rw [Nat.zero_add]
            exact ih e a m _ _ ha h1
          rw [List.drop_zero, ← hc.2, ← hl, List.take_length] at key
          exact key
        · cases h
      · cases h
    · rename_i fs hu
      split at h
      · rename_i a ha
        split at h
        · rename_i hc
          cases h
          obtain ⟨xs, m, _, _, hl, hxl, hxi⟩ := DataW.trod_struct hu hx
          have key := trod_fields2 (cs := cs) fs.toList 0 ks ha fun fl b hfl hb => by
            obtain ⟨i, hi⟩ := List.getElem?_of_mem hfl
            have hi' : fs[i]? = some fl := by simpa using hi
            have h1 := hxi i fl hi'
            cases hk : kindsT2 P d fl.type with
            | none => simp [hk] at hb
            | some b' =>
              simp only [hk, Option.bind_some] at hb
              split at hb
              · rename_i hlen
                cases hb
                have hlt : i < xs.length := by rw [hxl]; exact (Array.getElem?_eq_some_iff.1 hi').1
                rw [← hlen, List.getElem?_eq_getElem hlt] at h1
                exact ih fl.type b m _ _ hk h1
              · cases hb
          rw [List.drop_zero, hc, ← hl, List.take_length] at key
          exact key
        · cases h
      · cases h
    · cases h
end
end Go.Ex
namespace Go.Sx
open Go Go.ChangeShapes Go.WideShapes Go.ChangeAt Go.RowKit Go.Deep
def ktKd : Ex.Kt → Kd
  | .int k => .int k
  | .bool => .bool
  | .other _ => .slice
theorem rowOK_kt {Φ : Value → TypeId → Prop} (hΦ : Ex.SlOK Φ) : ∀ {row : List Value} {ks : List Ex.Kt}, Ex.okKs Φ row ks → rowOK row (ks.map ktKd)
  | [], [], _ => trivial
  | v :: row, k :: ks, h => by
    refine ⟨?_, rowOK_kt hΦ h.2⟩
    have h1 := h.1
    cases k with
    | int k => obtain ⟨n, rfl, _⟩ := h1; simp [valIs, ktKd]
    | bool => obtain ⟨b, rfl⟩ := h1; rfl
    | other t => obtain ⟨a, l, c, rfl⟩ := hΦ v t h1; rfl
  | [], _ :: _, h => h.elim
  | _ :: _, [], h => h.elim
section
variable {H : Type} {enc : TypeId × Value → H} {P : Program} {W : World} {base : Nat} {spare : Nat → Bool} {held : Bool} {d : DataW H} {p : List MemPlace}
theorem rdRowsT {t e : TypeId} {ks : List Ex.Kt} {dp : Nat} (ht : P.underlying t = some (.slice e)) (hk : Ex.kindsT2 P dp e = some ks) (hC : P.cellsOf e = ks.length) (hks : 0 < ks.length) {v : Value} (hv : ∃ a l c, v = .slice a l c) (h : DataW.Trod enc P W base spare held t v d p) :
    ∃ rows, RdRows (Hl.all W) v (ks.map ktKd) rows ∧ ∀ row ∈ rows, Ex.okKs (Ex.trodΦ enc P W base spare held) row ks := by
  obtain ⟨a0, len0, cap0, rfl⟩ := hv
  obtain ⟨fuel, hf⟩ := h
  rcases open_slice ht hf with h | ⟨a, len, cap, m, n, D, Pl, hcs, hb, hl, hm, hmm, hx, hi⟩
  · have h := h.1
    simp only [Value.cells, List.cons.injEq, Value.slice.injEq, and_true] at h
    obtain ⟨rfl, rfl, rfl⟩ := h
    exact ⟨[], ⟨-1, 0, 0, rfl, by omega, Or.inl rfl⟩, fun _ h => nomatch h⟩
  · simp only [Value.cells, List.cons.injEq, Value.slice.injEq, and_true] at hcs
    obtain ⟨rfl, rfl, rfl⟩ := hcs
    have hlm : len0 ≤ m := by rw [hmm]; split <;> omega
    have each : ∀ i, i < len0 → ∃ row, row.length = ks.length ∧ Ex.okKs (Ex.trodΦ enc P W base spare held) row ks ∧ ∀ j, j < ks.length → W.cell? ((a.add (i * ks.length)).add j) = row[j]? := by
      intro i hil
      obtain ⟨cs', hc, ht'⟩ := hi i (by omega)
      rw [hC] at hc
      obtain ⟨_, hcl, hat⟩ := World.cells?_some hc
      exact ⟨cs', hcl, Ex.trod_kinds2 dp e ks n cs' _ hk ht', fun j hj => hat j hj⟩
    rcases Nat.eq_zero_or_pos len0 with h0 | h0
    · subst h0
      obtain ⟨x, y, hx, hy, _⟩ := slP_all (some a)
      exact ⟨[], ⟨x, y, cap0, by rw [hx]; rfl, hy, Or.inl rfl⟩, fun _ h => nomatch h⟩
    · have hsp : a.spot = none := by
        obtain ⟨row, hl', _, hc⟩ := each 0 h0
        have := hc 0 hks
        simp only [Nat.zero_mul, Addr.add, if_true] at this
        rw [List.getElem?_eq_getElem (by omega)] at this
        exact cell_spot this
      obtain ⟨blk, off, spot⟩ := a
      simp only at hsp
      subst hsp
      classical
      let row : Nat → List Value := fun i => if h : i < len0 then (each i h).choose else []
      have hrow : ∀ i, i < len0 → (row i).length = ks.length ∧ Ex.okKs (Ex.trodΦ enc P W base spare held) (row i) ks ∧ ∀ j, j < ks.length → W.cell? ⟨blk, off + i * ks.length + j, none⟩ = (row i)[j]? := by
        intro i hil
        have := (each i hil).choose_spec
        simp only [row, dif_pos hil]
        refine ⟨this.1, this.2.1, fun j hj => ?_⟩
        rw [← this.2.2 j hj, addr_add, addr_add]
      refine ⟨(List.range len0).map row, ⟨blk, off, cap0, ?_, by omega, Or.inr ⟨by omega, fun i r hr => ?_⟩⟩, fun r hr => ?_⟩
      · rw [slP_pos (by omega), List.length_map, List.length_range]; rfl
      · have hil : i < len0 := by have := (List.getElem?_eq_some_iff.1 hr).1; simpa using this
        rw [List.getElem?_map, List.getElem?_range hil, Option.map_some, Option.some.injEq] at hr
        subst hr
        obtain ⟨h1, h2, h3⟩ := hrow i hil
        refine ⟨rowOK_kt Ex.trodΦ_sl h2, fun j u hu => ?_⟩
        rw [Int.toNat_natCast, Int.toNat_natCast, List.length_map]
        have hj : j < ks.length := by rw [← h1]; exact (List.getElem?_eq_some_iff.1 hu).1
        exact all_cell (by rw [h3 j hj]; exact hu)
      · obtain ⟨i, hil, rfl⟩ := List.mem_map.1 hr
        exact (hrow i (List.mem_range.1 hil)).2.1
end
end Go.Sx
namespace Go.Proofs.YtomdimlnggpgbaaGreatDoor.playsP
open Go Go.Sx Go.ChangeShapes Go.WideShapes Go.ChangeAt Go.RowKit Go.Deep
def k9 : List Ex.Kt := [.int .u8, .other 31, .int .i64]
section
variable {H : Type} {enc : TypeId × Value → H} {W : World} {base : Nat} {spare : Nat → Bool} {held : Bool}
theorem row3 {P : Program} {t : TypeId} {row : List Value} (h : Ex.okKs (Ex.trodΦ enc P W base spare held) row [.int .u8, .other t, .int .i64]) :
    ∃ k u z, row = [.int .u8 k, u, .int .i64 z] ∧ (Lit.int .u8 k).wf = true ∧ (∃ a l c, u = Value.slice a l c) ∧ ∃ d p, DataW.Trod enc P W base spare held t u d p := by
  match row, Ex.okKs_length h with
  | [a, u, c], _ =>
    obtain ⟨⟨k, rfl, hk⟩, hu, ⟨z, rfl, _⟩, _⟩ := h
    have hsl : ∃ a l c, u = Value.slice a l c := Ex.trodΦ_sl u t hu
    obtain ⟨_, fuel, x, hx⟩ := hu
    refine ⟨k, u, z, rfl, hk, hsl, x.1, x.2, fuel, ?_⟩
    obtain ⟨a, l, c, rfl⟩ := hsl
    exact hx
theorem row9 {row : List Value} (h : Ex.okKs (Ex.trodΦ enc Tryz.prog W base spare held) row k9) : ∃ o : Op9, row = o.row ∧ RowsB (Hl.all W) (Hl.all W) o.u o.rows ∧ (∀ r ∈ o.rows, bytes256 r) ∧ 0 ≤ o.k ∧ o.k < 256 := by
  obtain ⟨k, u, z, e, w1, hsl, d, p, hu⟩ := row3 h
  obtain ⟨us, rows, x', y, c, e0, hy, hlen, hcell, hrow, hbyte⟩ := slB_of Tryz.underlying31 Tryz.underlying46 (dp := 1) (by kernel_rfl) (by kernel_rfl) (by kernel_rfl) hsl hu
  exact ⟨⟨k, u, z, rows⟩, e, ⟨us, x', y, c, e0, hy, hlen, hcell, hrow⟩, hbyte, u8_wf w1⟩
theorem rows9 : ∀ {rows : List (List Value)}, (∀ row ∈ rows, Ex.okKs (Ex.trodΦ enc Tryz.prog W base spare held) row k9) → ∃ ops : List Op9, rows = ops.map Op9.row ∧ (∀ o ∈ ops, RowsB (Hl.all W) (Hl.all W) o.u o.rows) ∧ ∀ o ∈ ops, (∀ r ∈ o.rows, bytes256 r) ∧ 0 ≤ o.k ∧ o.k < 256
  | [], _ => ⟨[], rfl, (fun _ h => nomatch h), (fun _ h => nomatch h)⟩
  | row :: rows, h => by
    obtain ⟨o, e, h1, h2⟩ := row9 (h row (List.mem_cons_self ..))
    obtain ⟨ops, e', h3, h4⟩ := rows9 (rows := rows) fun r hr => h r (List.mem_cons_of_mem _ hr)
    refine ⟨o :: ops, by rw [e, e']; rfl, fun x hx => ?_, fun x hx => ?_⟩
    · rcases List.mem_cons.1 hx with rfl | hx
      · exact h1
      · exact h3 x hx
    · rcases List.mem_cons.1 hx with rfl | hx
      · exact h2
      · exact h4 x hx
end
end Go.Proofs.YtomdimlnggpgbaaGreatDoor.playsP
